/- Seat Ytfdmaafadphnfaa.ZD: the shallow functions of this program, part 1: printed by a program, each held against the staged interpreter by the kernel. -/
import Derived.Test.YtfdmaafadphnfaaGreatDoorCA
set_option maxRecDepth 100000
set_option linter.unusedVariables false
namespace Go.Proofs.YtfdmaafadphnfaaGreatDoor
open Go Go.Ne
noncomputable def S48 (call : CallF) (N : Nat) (l : List NV) (h : H) : R :=
 uc l fun v0 l1 => un l1 (
 joinC 1 (fun v2 h3 =>
 retC v2 h3) fun J4 =>
 loopC N 3 (fun L9 v5 v6 v7 h8 =>
 bK (lenStr v5) fun v10 =>
 bK (ltI v7 v10) fun v11 =>
 condK v11 (
 bK (ixStr v5 v7) fun v12 =>
 bK (eqI v12 (NV.int .u8 (.ofNat 105))) fun v13 =>
 joinC 3 (fun v14 v15 v16 h17 =>
 bK (addI v16 (NV.int .i64 (.ofNat 1))) fun v19 =>
 L9 v14 v15 v19 h17) fun J18 =>
 condK v13 (
 mK (bslM 1 false [(0, 1)] [(NV.int .i64 (.ofNat 0))] [(NV.int .i64 (.ofNat 127))] h8) fun v20 h21 =>
 mK (appM Tryz.prog 3 v6 v20 h21) fun v22 h23 =>
 J18 v5 v22 v7 h23) (
 bK (eqI v12 (NV.int .u8 (.ofNat 108))) fun v24 =>
 condK v24 (
 mK (bslM 1 false [(0, 1)] [(NV.int .i64 (.ofNat 0))] [(NV.int .i64 (.ofNat 126))] h8) fun v25 h26 =>
 mK (appM Tryz.prog 3 v6 v25 h26) fun v27 h28 =>
 J18 v5 v27 v7 h28) (
 bK (eqI v12 (NV.int .u8 (.ofNat 102))) fun v29 =>
 condK v29 (
 mK (bslM 1 false [(0, 1)] [(NV.int .i64 (.ofNat 0))] [(NV.int .i64 (.ofNat 125))] h8) fun v30 h31 =>
 mK (appM Tryz.prog 3 v6 v30 h31) fun v32 h33 =>
 J18 v5 v32 v7 h33) (
 bK (eqI v12 (NV.int .u8 (.ofNat 100))) fun v34 =>
 condK v34 (
 mK (bslM 1 false [(0, 1)] [(NV.int .i64 (.ofNat 0))] [(NV.int .i64 (.ofNat 124))] h8) fun v35 h36 =>
 mK (appM Tryz.prog 3 v6 v35 h36) fun v37 h38 =>
 J18 v5 v37 v7 h38) (
 bK (eqI v12 (NV.int .u8 (.ofNat 118))) fun v39 =>
 condK v39 (
 mK (bslM 1 false [(0, 1)] [(NV.int .i64 (.ofNat 0))] [(NV.int .i64 (.ofNat 123))] h8) fun v40 h41 =>
 mK (appM Tryz.prog 3 v6 v40 h41) fun v42 h43 =>
 J18 v5 v42 v7 h43) (
 bK (eqI v12 (NV.int .u8 (.ofNat 110))) fun v44 =>
 condK v44 (
 mK (bslM 1 false [(0, 1)] [(NV.int .i64 (.ofNat 0))] [(NV.int .i64 (.ofNat 112))] h8) fun v45 h46 =>
 mK (appM Tryz.prog 3 v6 v45 h46) fun v47 h48 =>
 J18 v5 v47 v7 h48) (
 J18 v5 v6 v7 h8))))))) (
 J4 v6 h8)) v0 NV.nslice (NV.int .i64 (.ofNat 0)) h)
theorem e48 : ikB Tryz.prog 10 Tryz.f48 = S48 := by kernel_rfl
theorem k48 [Sig] (w0 : World) : SOK cW w0 48 S48 := okW Tryz.func48 (by kernel_rfl) e48
noncomputable def S49 (call : CallF) (N : Nat) (l : List NV) (h : H) : R :=
 uc l fun v0 l1 => uc l1 fun v2 l3 => uc l3 fun v4 l5 => uc l5 fun v6 l7 => un l7 (
 mK (boxM false v0 h) fun v8 h9 =>
 mK (boxM false v2 h9) fun v10 h11 =>
 mK (boxM false v6 h11) fun v12 h13 =>
 mK (alM (NB.cells [NV.nslice, (NV.bool false), (NV.bool false)]) h13) fun v14 h15 =>
 bK (fAddr 0 v12) fun v16 =>
 bK (ldO 1 false h15 v16) fun v17 =>
 mK (calM call 47 [v17] h15) fun v18 h19 =>
 mK (alM (NB.cells [(NV.int .i64 (.ofNat 0)), (NV.str 0 0), (NV.int .i64 (.ofNat 0)), (NV.str 0 0), (NV.str 0 0), (NV.bool false)]) h19) fun v20 h21 =>
 mK (stM 6 v20 v18 h21) fun v22 h23 =>
 bK (fAddr 5 v20) fun v24 =>
 bK (ldO 1 false h23 v24) fun v25 =>
 condK v25 (
 bK (fAddr 0 v8) fun v26 =>
 bK (ldO 16 true h23 v26) fun v27 =>
 bK (ldO 9 true h23 v12) fun v28 =>
 bK (fAddr 2 v20) fun v29 =>
 bK (ldO 1 false h23 v29) fun v30 =>
 mK (calM call 76 [v27, v28, v30] h23) fun v31 h32 =>
 bK (notO v31) fun v33 =>
 condK v33 (
 mK (calM call 77 [] h32) fun v34 h35 =>
 mK (stM 3 v14 v34 h35) fun v36 h37 =>
 bK (ldB 3 true h37 v14) fun v38 =>
 retC v38 h37) (
 bK (ldO 3 true h32 (chkV h32 v10)) fun v39 =>
 bK (fAddr 3 v20) fun v40 =>
 bK (ldO 1 false h32 (chkV h32 v40)) fun v41 =>
 bK (fAddr 4 v20) fun v42 =>
 bK (ldO 1 false h32 (chkV h32 v42)) fun v43 =>
 mK (calM call 48 [(chkV h32 v41)] h32) fun v44 h45 =>
 nextK h32 h45 (
 bK (ldO 3 true h45 (chkV h45 v10)) fun v46 =>
 sameK v46 v39 (
 bK (ldO 1 false h45 (chkV h45 v42)) fun v47 =>
 sameK v47 v43 (
 mK (calM call 50 [(chkV h45 v39), (chkV h45 v44)] h45) fun v48 h49 =>
 nextK h45 h49 (
 bK (ldO 1 false h49 (chkV h49 v42)) fun v50 =>
 sameK v50 v43 (
 mK (calM call 48 [(chkV h49 v43)] h49) fun v51 h52 =>
 nextK h49 h52 (
 mK (calM call 78 [(chkV h52 v48), (chkV h52 v51)] h52) fun v53 h54 =>
 nextK h52 h54 (
 mK (stM 3 (chkV h54 v14) (chkV h54 v53) h54) fun v55 h56 =>
 nextK h54 h56 (
 bK (ldB 3 true h56 v14) fun v57 =>
 retC v57 h56)))))))))) (
 bK (fAddr 1 v20) fun v58 =>
 bK (ldO 1 false h23 v58) fun v59 =>
 bK (binO .eql v59 (NV.str 5 461229747298)) fun v60 =>
 joinC 8 (fun v61 v62 v63 v64 v65 v66 v67 v68 h69 =>
 condK v68 (
 bK (ldO 18 true h69 v62) fun v71 =>
 bK (ldO 3 true h69 v63) fun v72 =>
 bK (ldO 9 true h69 v64) fun v73 =>
 bK (fAddr 1 v66) fun v74 =>
 bK (ldO 1 false h69 v74) fun v75 =>
 mK (calM call 79 [v71, v72, v61, v73, v75] h69) fun v76 h77 =>
 mK (stM 3 v65 v76 h77) fun v78 h79 =>
 bK (ldB 3 true h79 v65) fun v80 =>
 retC v80 h79) (
 bK (binO .eql v67 (NV.str 11 122613338161115981086355061)) fun v81 =>
 condK v81 (
 bK (bldO [(1, 1)] [NV.nslice, (NV.bool false), (NV.bool false)] [(NV.bool true)]) fun v82 =>
 mK (stM 3 v65 v82 h69) fun v83 h84 =>
 bK (ldB 3 true h84 v65) fun v85 =>
 retC v85 h84) (
 bK (binO .eql v67 (NV.str 2 29282)) fun v86 =>
 joinC 8 (fun v87 v88 v89 v90 v91 v92 v93 v94 h95 =>
 condK v94 (
 bK (ldO 18 true h95 v88) fun v97 =>
 bK (ldO 3 true h95 v89) fun v98 =>
 bK (ldO 9 true h95 v90) fun v99 =>
 bK (fAddr 1 v92) fun v100 =>
 bK (ldO 1 false h95 v100) fun v101 =>
 mK (calM call 80 [v97, v98, v87, v99, v101] h95) fun v102 h103 =>
 mK (stM 3 v91 v102 h103) fun v104 h105 =>
 bK (ldB 3 true h105 v91) fun v106 =>
 retC v106 h105) (
 bK (binO .eql v93 (NV.str 4 1819042147)) fun v107 =>
 condK v107 (
 bK (fAddr 0 v88) fun v108 =>
 bK (ldO 16 true h95 v108) fun v109 =>
 bK (fAddr 1 v90) fun v110 =>
 bK (ldO 1 false h95 v110) fun v111 =>
 mK (calM call 21 [v109, v111] h95) fun v112 h113 =>
 bK (extO 0 v112) fun v114 =>
 bK (extO 1 v112) fun v115 =>
 mK (alM (NB.cells [NV.nslice, NV.nslice]) h113) fun v116 h117 =>
 mK (stM 2 v116 v114 h117) fun v118 h119 =>
 bK (notO v115) fun v120 =>
 condK v120 (
 mK (calM call 77 [] h119) fun v121 h122 =>
 mK (stM 3 v91 v121 h122) fun v123 h124 =>
 bK (ldB 3 true h124 v91) fun v125 =>
 retC v125 h124) (
 bK (ldO 3 true h119 (chkV h119 v89)) fun v126 =>
 bK (fAddr 0 v116) fun v127 =>
 bK (ldO 1 false h119 (chkV h119 v127)) fun v128 =>
 bK (fAddr 1 v116) fun v129 =>
 bK (ldO 1 false h119 (chkV h119 v129)) fun v130 =>
 mK (calM call 50 [(chkV h119 v126), (chkV h119 v128)] h119) fun v131 h132 =>
 nextK h119 h132 (
 bK (ldO 1 false h132 (chkV h132 v129)) fun v133 =>
 sameK v133 v130 (
 mK (calM call 78 [(chkV h132 v131), (chkV h132 v130)] h132) fun v134 h135 =>
 nextK h132 h135 (
 mK (stM 3 (chkV h135 v91) (chkV h135 v134) h135) fun v136 h137 =>
 nextK h135 h137 (
 bK (ldB 3 true h137 v91) fun v138 =>
 retC v138 h137)))))) (
 bK (binO .eql v93 (NV.str 13 9221228509428681412590346985827)) fun v139 =>
 condK v139 (
 bK (fAddr 1 v90) fun v140 =>
 bK (ldO 1 false h95 v140) fun v141 =>
 bK (fAddr 0 v88) fun v142 =>
 bK (fAddr 0 v142) fun v143 =>
 bK (fAddr 0 v143) fun v144 =>
 bK (ldO 1 false h95 v144) fun v145 =>
 bK (lenSl v145) fun v146 =>
 bK (geI v141 v146) fun v147 =>
 jK (fun v148 h149 =>
 jK (fun v151 h152 =>
 jK (fun v154 h155 =>
 jK (fun v157 h158 =>
 jK (fun v160 h161 =>
 jK (fun v163 h164 =>
 jK (fun v166 h167 =>
 bK (pickO v147 (NV.bool true) v166) fun v169 =>
 jK (fun v170 h171 =>
 jK (fun v173 h174 =>
 jK (fun v176 h177 =>
 jK (fun v179 h180 =>
 jK (fun v182 h183 =>
 jK (fun v185 h186 =>
 jK (fun v188 h189 =>
 jK (fun v191 h192 =>
 jK (fun v194 h195 =>
 bK (pickO v169 (NV.bool true) v194) fun v197 =>
 condK v197 (
 mK (calM call 77 [] h195) fun v198 h199 =>
 mK (stM 3 v91 v198 h199) fun v200 h201 =>
 bK (ldB 3 true h201 v91) fun v202 =>
 retC v202 h201) (
 bK (fAddr 0 v88) fun v203 =>
 bK (fAddr 0 v203) fun v204 =>
 bK (fAddr 0 v204) fun v205 =>
 bK (ldO 1 false h195 v205) fun v206 =>
 bK (fAddr 1 v90) fun v207 =>
 bK (ldO 1 false h195 v207) fun v208 =>
 bK (ixS 2 v206 v208) fun v209 =>
 bK (ldO 2 true h195 v209) fun v210 =>
 mK (alM (NB.cells [NV.nslice, NV.nslice]) h195) fun v211 h212 =>
 mK (stM 2 v211 v210 h212) fun v213 h214 =>
 bK (ldO 3 true h214 (chkV h214 v89)) fun v215 =>
 bK (fAddr 0 v211) fun v216 =>
 bK (ldO 1 false h214 (chkV h214 v216)) fun v217 =>
 bK (fAddr 1 v211) fun v218 =>
 bK (ldO 1 false h214 (chkV h214 v218)) fun v219 =>
 mK (bslM 1 false [(0, 1)] [(NV.int .i64 (.ofNat 0))] [(NV.int .i64 (.ofNat 127))] h214) fun v220 h221 =>
 mK (calM call 50 [(chkV h221 v215), (chkV h221 v220)] h221) fun v222 h223 =>
 nextK h221 h223 (
 bK (ldO 1 false h223 (chkV h223 v216)) fun v224 =>
 sameK v224 v217 (
 bK (ldO 1 false h223 (chkV h223 v218)) fun v225 =>
 sameK v225 v219 (
 mK (calM call 50 [(chkV h223 v222), (chkV h223 v217)] h223) fun v226 h227 =>
 nextK h223 h227 (
 bK (ldO 1 false h227 (chkV h227 v218)) fun v228 =>
 sameK v228 v219 (
 mK (calM call 78 [(chkV h227 v226), (chkV h227 v219)] h227) fun v229 h230 =>
 nextK h227 h230 (
 mK (stM 3 (chkV h230 v91) (chkV h230 v229) h230) fun v231 h232 =>
 nextK h230 h232 (
 bK (ldB 3 true h232 v91) fun v233 =>
 retC v233 h232))))))))) fun J196 => gK v169 false (
 bK (neI v191 (NV.int .i64 (.ofNat 112))) fun v234 =>
 J196 v234 h192) (J196 (NV.tuple []) h192)) fun J193 => gK v169 false (
 bK (ldO 1 false h189 v188) fun v235 =>
 J193 v235 h189) (J193 (NV.tuple []) h189)) fun J190 => gK v169 false (
 bK (fAddr 0 v185) fun v236 =>
 J190 v236 h186) (J190 (NV.tuple []) h186)) fun J187 => gK v169 false (
 bK (ixS 4 v176 v182) fun v237 =>
 J187 v237 h183) (J187 (NV.tuple []) h183)) fun J184 => gK v169 false (
 bK (ldO 1 false h180 v179) fun v238 =>
 J184 v238 h180) (J184 (NV.tuple []) h180)) fun J181 => gK v169 false (
 bK (fAddr 2 v90) fun v239 =>
 J181 v239 h177) (J181 (NV.tuple []) h177)) fun J178 => gK v169 false (
 bK (ldO 1 false h174 v173) fun v240 =>
 J178 v240 h174) (J178 (NV.tuple []) h174)) fun J175 => gK v169 false (
 bK (fAddr 12 v170) fun v241 =>
 J175 v241 h171) (J175 (NV.tuple []) h171)) fun J172 => gK v169 false (
 bK (fAddr 0 v88) fun v242 =>
 J172 v242 h167) (J172 (NV.tuple []) h167)) fun J168 => gK v147 false (
 bK (geI v151 v163) fun v243 =>
 J168 v243 h164) (J168 (NV.tuple []) h164)) fun J165 => gK v147 false (
 bK (lenSl v160) fun v244 =>
 J165 v244 h161) (J165 (NV.tuple []) h161)) fun J162 => gK v147 false (
 bK (ldO 1 false h158 v157) fun v245 =>
 J162 v245 h158) (J162 (NV.tuple []) h158)) fun J159 => gK v147 false (
 bK (fAddr 12 v154) fun v246 =>
 J159 v246 h155) (J159 (NV.tuple []) h155)) fun J156 => gK v147 false (
 bK (fAddr 0 v88) fun v247 =>
 J156 v247 h152) (J156 (NV.tuple []) h152)) fun J153 => gK v147 false (
 bK (ldO 1 false h149 v148) fun v248 =>
 J153 v248 h149) (J153 (NV.tuple []) h149)) fun J150 => gK v147 false (
 bK (fAddr 2 v90) fun v249 =>
 J150 v249 h95) (J150 (NV.tuple []) h95)) (
 bK (binO .eql v93 (NV.str 4 1886351972)) fun v250 =>
 condK v250 (
 bK (ldO 3 true h95 v89) fun v251 =>
 mK (calM call 81 [v251] h95) fun v252 h253 =>
 bK (extO 0 v252) fun v254 =>
 bK (extO 1 v252) fun v255 =>
 mK (alM (NB.cells [NV.nslice, (NV.bool false), (NV.bool false)]) h253) fun v256 h257 =>
 mK (stM 3 v256 v254 h257) fun v258 h259 =>
 bK (ldO 3 true h259 v256) fun v260 =>
 mK (stM 3 v91 v260 h259) fun v261 h262 =>
 bK (ldB 3 true h262 v91) fun v263 =>
 retC v263 h262) (
 bK (binO .eql v93 (NV.str 6 127970252186995)) fun v264 =>
 condK v264 (
 bK (ldO 3 true h95 v89) fun v265 =>
 bK (ldO 9 true h95 v90) fun v266 =>
 mK (calM call 82 [v265, v266] h95) fun v267 h268 =>
 mK (stM 3 v91 v267 h268) fun v269 h270 =>
 bK (ldB 3 true h270 v91) fun v271 =>
 retC v271 h270) (
 bK (binO .eql v93 (NV.str 8 7812748569666282866)) fun v272 =>
 condK v272 (
 bK (ldO 3 true h95 v89) fun v273 =>
 bK (fAddr 1 v90) fun v274 =>
 bK (ldO 1 false h95 v274) fun v275 =>
 mK (bslM 1 false [(0, 1)] [(NV.int .i64 (.ofNat 0))] [v275] h95) fun v276 h277 =>
 mK (calM call 78 [v273, v276] h277) fun v278 h279 =>
 mK (stM 3 v91 v278 h279) fun v280 h281 =>
 bK (ldB 3 true h281 v91) fun v282 =>
 retC v282 h281) (
 bK (binO .eql v93 (NV.str 11 131076170320788859115693426)) fun v283 =>
 condK v283 (
 bK (ldO 3 true h95 v89) fun v284 =>
 mK (calM call 81 [v284] h95) fun v285 h286 =>
 bK (extO 0 v285) fun v287 =>
 bK (extO 1 v285) fun v288 =>
 mK (alM (NB.cells [NV.nslice, (NV.bool false), (NV.bool false)]) h286) fun v289 h290 =>
 mK (stM 3 v289 v287 h290) fun v291 h292 =>
 bK (neI v288 (NV.int .i64 (.ofNat 0))) fun v293 =>
 jK (fun v294 h295 =>
 jK (fun v297 h298 =>
 bK (pickO v293 v297 (NV.bool false)) fun v300 =>
 jK (fun v301 h302 =>
 jK (fun v304 h305 =>
 bK (pickO v300 v304 (NV.bool false)) fun v307 =>
 condK v307 (
 mK (calM call 77 [] h305) fun v308 h309 =>
 mK (stM 3 v91 v308 h309) fun v310 h311 =>
 bK (ldB 3 true h311 v91) fun v312 =>
 retC v312 h311) (
 bK (ldO 3 true h305 v289) fun v313 =>
 mK (bslM 1 false [(0, 1)] [(NV.int .i64 (.ofNat 0))] [(NV.int .i64 (.ofNat 127))] h305) fun v314 h315 =>
 mK (calM call 78 [v313, v314] h315) fun v316 h317 =>
 mK (stM 3 v91 v316 h317) fun v318 h319 =>
 bK (ldB 3 true h319 v91) fun v320 =>
 retC v320 h319)) fun J306 => gK v300 true (
 bK (neI v301 (NV.int .i64 (.ofNat 111))) fun v321 =>
 J306 v321 h302) (J306 (NV.tuple []) h302)) fun J303 => gK v300 true (
 J303 v288 h298) (J303 (NV.tuple []) h298)) fun J299 => gK v293 true (
 bK (neI v294 (NV.int .i64 (.ofNat 112))) fun v322 =>
 J299 v322 h295) (J299 (NV.tuple []) h295)) fun J296 => gK v293 true (
 J296 v288 h292) (J296 (NV.tuple []) h292)) (
 bK (ldO 18 true h95 v88) fun v323 =>
 bK (ldO 3 true h95 v89) fun v324 =>
 bK (ldO 9 true h95 v90) fun v325 =>
 bK (fAddr 1 v92) fun v326 =>
 bK (ldO 1 false h95 v326) fun v327 =>
 mK (calM call 83 [v323, v324, v325, v327] h95) fun v328 h329 =>
 mK (stM 3 v91 v328 h329) fun v330 h331 =>
 bK (ldB 3 true h331 v91) fun v332 =>
 retC v332 h331)))))))) fun J96 =>
 condK v86 (
 J96 v61 v62 v63 v64 v65 v66 v67 v86 h69) (
 bK (binO .eql v67 (NV.str 5 439854527074)) fun v333 =>
 condK v333 (
 J96 v61 v62 v63 v64 v65 v66 v67 v333 h69) (
 bK (binO .eql v67 (NV.str 8 7308324466019234402)) fun v334 =>
 condK v334 (
 J96 v61 v62 v63 v64 v65 v66 v67 v334 h69) (
 bK (binO .eql v67 (NV.str 6 121437875889522)) fun v335 =>
 J96 v61 v62 v63 v64 v65 v66 v67 v335 h69)))))) fun J70 =>
 condK v60 (
 J70 v4 v8 v10 v12 v14 v20 v59 v60 h23) (
 bK (binO .eql v59 (NV.str 4 1886351212)) fun v336 =>
 condK v336 (
 J70 v4 v8 v10 v12 v14 v20 v59 v336 h23) (
 bK (binO .eql v59 (NV.str 2 26217)) fun v337 =>
 J70 v4 v8 v10 v12 v14 v20 v59 v337 h23))))
theorem e49 : ikB Tryz.prog 10 Tryz.f49 = S49 := by kernel_rfl
theorem k49 [Sig] (w0 : World) : SOK cW w0 49 S49 := okW Tryz.func49 (by kernel_rfl) e49
noncomputable def S50 (call : CallF) (N : Nat) (l : List NV) (h : H) : R :=
 uc l fun v0 l1 => uc l1 fun v2 l3 => un l3 (
 mK (boxM false v0 h) fun v4 h5 =>
 mK (alM (NB.cells [NV.nslice, (NV.bool false), (NV.bool false)]) h5) fun v6 h7 =>
 bK (lenSl v2) fun v8 =>
 bK (subI v8 (NV.int .i64 (.ofNat 1))) fun v9 =>
 joinC 2 (fun v10 v11 h12 =>
 bK (ldO 3 true h12 v10) fun v14 =>
 mK (stM 3 v11 v14 h12) fun v15 h16 =>
 bK (ldB 3 true h16 v11) fun v17 =>
 retC v17 h16) fun J13 =>
 loopC N 4 (fun L23 v18 v19 v20 v21 h22 =>
 bK (geI v21 (NV.int .i64 (.ofNat 0))) fun v24 =>
 condK v24 (
 bK (ldO 3 true h22 v19) fun v25 =>
 mK (calM call 81 [v25] h22) fun v26 h27 =>
 bK (extO 0 v26) fun v28 =>
 bK (extO 1 v26) fun v29 =>
 mK (alM (NB.cells [NV.nslice, (NV.bool false), (NV.bool false)]) h27) fun v30 h31 =>
 mK (stM 3 v30 v28 h31) fun v32 h33 =>
 bK (ldO 3 true h33 v30) fun v34 =>
 mK (stM 3 v19 v34 h33) fun v35 h36 =>
 bK (neI v29 (NV.int .i64 (.ofNat 0))) fun v37 =>
 jK (fun v38 h39 =>
 jK (fun v41 h42 =>
 jK (fun v44 h45 =>
 jK (fun v47 h48 =>
 jK (fun v50 h51 =>
 jK (fun v53 h54 =>
 bK (pickO v37 v53 (NV.bool false)) fun v56 =>
 joinC 4 (fun v57 v58 v59 v60 h61 =>
 bK (subI v60 (NV.int .i64 (.ofNat 1))) fun v63 =>
 L23 v57 v58 v59 v63 h61) fun J62 =>
 condK v56 (
 bK (fAddr 2 v19) fun v64 =>
 mK (stM 1 v64 (NV.bool true) h54) fun v65 h66 =>
 J62 v18 v19 v20 v21 h66) (
 J62 v18 v19 v20 v21 h54)) fun J55 => gK v37 true (
 bK (neI v38 v50) fun v67 =>
 J55 v67 h51) (J55 (NV.tuple []) h51)) fun J52 => gK v37 true (
 bK (ldO 1 false h48 v47) fun v68 =>
 J52 v68 h48) (J52 (NV.tuple []) h48)) fun J49 => gK v37 true (
 bK (ixS 1 v41 v44) fun v69 =>
 J49 v69 h45) (J49 (NV.tuple []) h45)) fun J46 => gK v37 true (
 J46 v21 h42) (J46 (NV.tuple []) h42)) fun J43 => gK v37 true (
 J43 v18 h39) (J43 (NV.tuple []) h39)) fun J40 => gK v37 true (
 J40 v29 h36) (J40 (NV.tuple []) h36)) (
 J13 v19 v20 h22)) v2 v4 v6 v9 h7)
theorem e50 : ikB Tryz.prog 10 Tryz.f50 = S50 := by kernel_rfl
theorem k50 [Sig] (w0 : World) : SOK cW w0 50 S50 := okW Tryz.func50 (by kernel_rfl) e50
noncomputable def S51 (call : CallF) (N : Nat) (l : List NV) (h : H) : R :=
 uc l fun v0 l1 => un l1 (
 mK (boxM false v0 h) fun v2 h3 =>
 bK (ldO 11 true h3 v2) fun v4 =>
 mK (calM call 84 [v4] h3) fun v5 h6 =>
 bK (notO v5) fun v7 =>
 condK v7 (
 retC (NV.int .i64 (.ofNat 1)) h6) (
 bK (ldO 11 true h6 v2) fun v8 =>
 mK (calM call 85 [v8] h6) fun v9 h10 =>
 mK (calM call 86 [v9] h10) fun v11 h12 =>
 bK (notO v11) fun v13 =>
 condK v13 (
 retC (NV.int .i64 (.ofNat 20)) h12) (
 retC (NV.int .i64 (.ofNat 0)) h12)))
theorem e51 : ikB Tryz.prog 10 Tryz.f51 = S51 := by kernel_rfl
theorem k51 [Sig] (w0 : World) : SOK cW w0 51 S51 := okW Tryz.func51 (by kernel_rfl) e51
noncomputable def S52 (call : CallF) (N : Nat) (l : List NV) (h : H) : R :=
 uc l fun v0 l1 => uc l1 fun v2 l3 => un l3 (
 mK (boxM false v0 h) fun v4 h5 =>
 mK (alM (NB.cells [NV.nslice, NV.nslice, NV.nslice, NV.nslice]) h5) fun v6 h7 =>
 bK (fAddr 2 v4) fun v8 =>
 bK (ldO 1 false h7 v8) fun v9 =>
 bK (ixS 3 v9 v2) fun v10 =>
 bK (ldO 3 true h7 v10) fun v11 =>
 mK (alM (NB.cells [(NV.int .i64 (.ofNat 0)), NV.nslice, NV.nslice]) h7) fun v12 h13 =>
 mK (stM 3 v12 v11 h13) fun v14 h15 =>
 bK (fAddr 0 v4) fun v16 =>
 bK (ldO 1 false h15 v16) fun v17 =>
 bK (fAddr 0 v12) fun v18 =>
 bK (ldO 1 false h15 v18) fun v19 =>
 bK (ixS 2 v17 v19) fun v20 =>
 bK (ldO 2 true h15 v20) fun v21 =>
 mK (alM (NB.cells [NV.nslice, NV.nslice]) h15) fun v22 h23 =>
 mK (stM 2 v22 v21 h23) fun v24 h25 =>
 bK (ldO 11 true h25 v4) fun v26 =>
 bK (fAddr 1 v22) fun v27 =>
 bK (ldO 1 false h25 v27) fun v28 =>
 bK (lenSl v28) fun v29 =>
 bK (bldO [(0, 11), (15, 1)] [NV.nslice, NV.nslice, NV.nslice, NV.nslice, NV.nslice, NV.nslice, NV.nslice, (NV.int .i64 (.ofNat 0)), NV.nslice, NV.nslice, (NV.bool false), NV.nslice, NV.nslice, NV.nslice, (NV.int .i64 (.ofNat 0)), (NV.int .i64 (.ofNat 0)), (NV.bool false)] [v26, v29]) fun v30 =>
 mK (boxM false v30 h25) fun v31 h32 =>
 bK (fAddr 1 v4) fun v33 =>
 bK (ldO 1 false h32 v33) fun v34 =>
 bK (lenSl v34) fun v35 =>
 joinC 5 (fun v36 v37 v38 v39 v40 h41 =>
 bK (fAddr 2 v36) fun v43 =>
 bK (ldO 1 false h41 v43) fun v44 =>
 bK (lenSl v44) fun v45 =>
 joinC 4 (fun v46 v47 v48 v49 h50 =>
 bK (nilO v49) fun v52 =>
 bK (fAddr 15 v52) fun v53 =>
 bK (ldO 1 false h50 v53) fun v54 =>
 bK (bldO [(0, 1), (2, 1)] [(NV.int .i64 (.ofNat 0)), (NV.int .i64 (.ofNat 0)), (NV.int .i64 (.ofNat 0)), NV.nslice] [v54, (NV.int .i64 (.negSucc 0))]) fun v55 =>
 mK (boxM false v55 h50) fun v56 h57 =>
 mK (bslM 1 false [(0, 1)] [NV.nilptr] [v56] h57) fun v58 h59 =>
 bK (nilO v49) fun v60 =>
 bK (fAddr 13 v60) fun v61 =>
 mK (stM 1 v61 v58 h59) fun v62 h63 =>
 bK (fAddr 2 v47) fun v64 =>
 bK (ldO 1 false h63 v64) fun v65 =>
 mK (calM call 87 [v49, v65] h63) fun v66 h67 =>
 bK (nilO v49) fun v68 =>
 bK (fAddr 12 v68) fun v69 =>
 bK (ldO 1 false h67 v69) fun v70 =>
 bK (lenSl v70) fun v71 =>
 mK (calM call 88 [v56, v71] h67) fun v72 h73 =>
 bK (nilO v49) fun v74 =>
 bK (fAddr 12 v74) fun v75 =>
 bK (ldO 1 false h73 (chkV h73 v75)) fun v76 =>
 bK (nilO v49) fun v77 =>
 bK (fAddr 15 v77) fun v78 =>
 bK (ldO 1 false h73 (chkV h73 v78)) fun v79 =>
 bK (bldO [(1, 1)] [(NV.int .i64 (.ofNat 0)), (NV.int .i64 (.ofNat 0)), (NV.int .i64 (.ofNat 0))] [v79]) fun v80 =>
 bK (bldO [(0, 1), (6, 3), (10, 1)] [(NV.int .i64 (.ofNat 0)), (NV.int .i64 (.ofNat 0)), (NV.int .i64 (.ofNat 0)), (NV.int .u64 (.ofNat 0)), (NV.int .u64 (.ofNat 0)), NV.nslice, (NV.int .i64 (.ofNat 0)), (NV.int .i64 (.ofNat 0)), (NV.int .i64 (.ofNat 0)), NV.nslice, (NV.bool false)] [(NV.int .i64 (.ofNat 65540)), v80, (NV.bool true)]) fun v81 =>
 mK (bslM 1 false [(0, 11)] [(NV.int .i64 (.ofNat 0)), (NV.int .i64 (.ofNat 0)), (NV.int .i64 (.ofNat 0)), (NV.int .u64 (.ofNat 0)), (NV.int .u64 (.ofNat 0)), NV.nslice, (NV.int .i64 (.ofNat 0)), (NV.int .i64 (.ofNat 0)), (NV.int .i64 (.ofNat 0)), NV.nslice, (NV.bool false)] [(chkV h73 v81)] h73) fun v82 h83 =>
 mK (appM Tryz.prog 165 (chkV h83 v76) (chkV h83 v82) h83) fun v84 h85 =>
 nextK h83 h85 (
 bK (nilO v49) fun v86 =>
 bK (fAddr 12 v86) fun v87 =>
 mK (stM 1 (chkV h85 v87) (chkV h85 v84) h85) fun v88 h89 =>
 nextK h85 h89 (
 bK (fAddr 0 v48) fun v90 =>
 bK (ldO 1 false h89 (chkV h89 v90)) fun v91 =>
 bK (fAddr 1 v48) fun v92 =>
 bK (ldO 1 false h89 (chkV h89 v92)) fun v93 =>
 bK (fAddr 1 v47) fun v94 =>
 bK (ldO 1 false h89 (chkV h89 v94)) fun v95 =>
 bK (nilO v49) fun v96 =>
 bK (fAddr 12 v96) fun v97 =>
 bK (ldO 1 false h89 (chkV h89 v97)) fun v98 =>
 mK (calM call 89 [(chkV h89 v91)] h89) fun v99 h100 =>
 nextK h89 h100 (
 bK (ldO 1 false h100 (chkV h100 v92)) fun v101 =>
 sameK v101 v93 (
 bK (ldO 1 false h100 (chkV h100 v94)) fun v102 =>
 sameK v102 v95 (
 bK (ldO 1 false h100 (chkV h100 v97)) fun v103 =>
 sameK v103 v98 (
 mK (calM call 89 [(chkV h100 v93)] h100) fun v104 h105 =>
 nextK h100 h105 (
 bK (bldO [(0, 1), (1, 1)] [NV.nslice, NV.nslice] [v99, v104]) fun v106 =>
 bK (ldO 1 false h105 (chkV h105 v94)) fun v107 =>
 sameK v107 v95 (
 bK (ldO 1 false h105 (chkV h105 v97)) fun v108 =>
 sameK v108 v98 (
 mK (calM call 89 [(chkV h105 v95)] h105) fun v109 h110 =>
 nextK h105 h110 (
 bK (bldO [(0, 2), (2, 1), (3, 1)] [NV.nslice, NV.nslice, NV.nslice, NV.nslice] [v106, v109, v98]) fun v111 =>
 bK (ldO 1 false h110 (chkV h110 v97)) fun v112 =>
 sameK v112 v98 (
 mK (stM 4 (chkV h110 v46) (chkV h110 v111) h110) fun v113 h114 =>
 nextK h110 h114 (
 bK (ldB 4 true h114 v46) fun v115 =>
 retC v115 h114))))))))))))) fun J51 =>
 loopC N 7 (fun L124 v116 v117 v118 v119 v120 v121 v122 h123 =>
 bK (ltI v122 v121) fun v125 =>
 condK v125 (
 bK (ixS 3 v120 v122) fun v126 =>
 bK (ldO 3 true h123 v126) fun v127 =>
 mK (alM (NB.cells [(NV.int .i64 (.ofNat 0)), NV.nslice, NV.nslice]) h123) fun v128 h129 =>
 mK (stM 3 v128 v127 h129) fun v130 h131 =>
 bK (nilO v119) fun v132 =>
 bK (fAddr 11 v132) fun v133 =>
 bK (ldO 1 false h131 (chkV h131 v133)) fun v134 =>
 bK (fAddr 0 v128) fun v135 =>
 bK (ldO 1 false h131 (chkV h131 v135)) fun v136 =>
 mK (bslM 1 false [(0, 1)] [(NV.int .i64 (.ofNat 0))] [(chkV h131 v136)] h131) fun v137 h138 =>
 mK (appM Tryz.prog 3 (chkV h138 v134) (chkV h138 v137) h138) fun v139 h140 =>
 nextK h138 h140 (
 bK (nilO v119) fun v141 =>
 bK (fAddr 11 v141) fun v142 =>
 mK (stM 1 (chkV h140 v142) (chkV h140 v139) h140) fun v143 h144 =>
 nextK h140 h144 (
 bK (addI v122 (NV.int .i64 (.ofNat 1))) fun v145 =>
 L124 v116 v117 v118 v119 v120 v121 v145 h144))) (
 J51 v116 v117 v118 v119 h123)) v37 v38 v39 v40 v44 v45 (NV.int .i64 (.ofNat 0)) h41) fun J42 =>
 loopC N 8 (fun L155 v146 v147 v148 v149 v150 v151 v152 v153 h154 =>
 bK (ltI v153 v152) fun v156 =>
 condK v156 (
 bK (ixS 13 v151 v153) fun v157 =>
 bK (ldO 13 true h154 v157) fun v158 =>
 mK (alM (NB.cells [(NV.str 0 0), (NV.str 0 0), (NV.int .i64 (.ofNat 0)), (NV.int .i64 (.ofNat 0)), (NV.int .i64 (.ofNat 0)), (NV.int .i64 (.ofNat 0)), (NV.int .i64 (.ofNat 0)), (NV.bool false), (NV.int .i64 (.ofNat 0)), (NV.int .i64 (.ofNat 0)), (NV.bool false), (NV.int .i64 (.ofNat 0)), (NV.bool false)]) h154) fun v159 h160 =>
 mK (stM 13 v159 v158 h160) fun v161 h162 =>
 bK (fAddr 2 v159) fun v163 =>
 bK (ldO 1 false h162 v163) fun v164 =>
 bK (eqI v164 (NV.int .i64 (.ofNat 0))) fun v165 =>
 joinC 8 (fun v166 v167 v168 v169 v170 v171 v172 v173 h174 =>
 bK (addI v173 (NV.int .i64 (.ofNat 1))) fun v176 =>
 L155 v166 v167 v168 v169 v170 v171 v172 v176 h174) fun J175 =>
 condK v165 (
 bK (nilO v150) fun v177 =>
 bK (fAddr 11 v177) fun v178 =>
 bK (ldO 1 false h162 (chkV h162 v178)) fun v179 =>
 bK (fAddr 3 v159) fun v180 =>
 bK (ldO 1 false h162 (chkV h162 v180)) fun v181 =>
 mK (bslM 1 false [(0, 1)] [(NV.int .i64 (.ofNat 0))] [(chkV h162 v181)] h162) fun v182 h183 =>
 mK (appM Tryz.prog 3 (chkV h183 v179) (chkV h183 v182) h183) fun v184 h185 =>
 nextK h183 h185 (
 bK (nilO v150) fun v186 =>
 bK (fAddr 11 v186) fun v187 =>
 mK (stM 1 (chkV h185 v187) (chkV h185 v184) h185) fun v188 h189 =>
 nextK h185 h189 (
 J175 v146 v147 v148 v149 v150 v151 v152 v153 h189))) (
 J175 v146 v147 v148 v149 v150 v151 v152 v153 h162)) (
 J42 v146 v147 v148 v149 v150 h154)) v4 v6 v12 v22 v31 v34 v35 (NV.int .i64 (.ofNat 0)) h32)
theorem e52 : ikB Tryz.prog 10 Tryz.f52 = S52 := by kernel_rfl
theorem k52 [Sig] (w0 : World) : SOK cW w0 52 S52 := okW Tryz.func52 (by kernel_rfl) e52
noncomputable def S53 (call : CallF) (N : Nat) (l : List NV) (h : H) : R :=
 uc l fun v0 l1 => uc l1 fun v2 l3 => uc l3 fun v4 l5 => un l5 (
 bK (lenSl v0) fun v6 =>
 bK (slcO Tryz.prog 47 h v0 (some v2) (some v4) (some v6)) fun v7 =>
 bK (eqI v2 v4) fun v8 =>
 condK v8 (
 retC v0 h) (
 bK (lenSl v0) fun v9 =>
 bK (slcO Tryz.prog 47 h (chkV h v0) none (some (chkV h v2)) none) fun v10 =>
 bK (slcO Tryz.prog 47 h (chkV h v0) (some (chkV h v4)) none none) fun v11 =>
 mK (appM Tryz.prog 59 (chkV h v10) (chkV h v11) h) fun v12 h13 =>
 nextK h h13 (
 bK (lenSl v12) fun v14 =>
 bK (slcO Tryz.prog 47 h13 v12 (some v14) (some v9) none) fun v15 =>
 none /- builtin Go.Builtin.clear -/)))
theorem e53 : ikB Tryz.prog 10 Tryz.f53 = S53 := by kernel_rfl
theorem k53 [Sig] (w0 : World) : SOK cW w0 53 S53 := okW Tryz.func53 (by kernel_rfl) e53
noncomputable def S54 (call : CallF) (N : Nat) (l : List NV) (h : H) : R :=
 uc l fun v0 l1 => un l1 (
 mK (alM (NB.cells [(NV.int .i64 (.ofNat 0)), (NV.int .u64 (.ofNat 0)), (NV.int .u64 (.ofNat 0)), (NV.bool false)]) h) fun v2 h3 =>
 bK (nilO v0) fun v4 =>
 bK (fAddr 6 v4) fun v5 =>
 bK (ldO 1 false h3 v5) fun v6 =>
 bK (lenSl v6) fun v7 =>
 bK (subI v7 (NV.int .i64 (.ofNat 1))) fun v8 =>
 bK (nilO v0) fun v9 =>
 bK (fAddr 6 v9) fun v10 =>
 bK (ldO 1 false h3 v10) fun v11 =>
 bK (ixS 4 v11 v8) fun v12 =>
 bK (ldO 4 true h3 v12) fun v13 =>
 mK (alM (NB.cells [(NV.int .i64 (.ofNat 0)), (NV.int .u64 (.ofNat 0)), (NV.int .u64 (.ofNat 0)), (NV.bool false)]) h3) fun v14 h15 =>
 mK (stM 4 v14 v13 h15) fun v16 h17 =>
 bK (nilO v0) fun v18 =>
 bK (fAddr 6 v18) fun v19 =>
 bK (ldO 1 false h17 v19) fun v20 =>
 bK (slcO Tryz.prog 47 h17 v20 none (some v8) none) fun v21 =>
 bK (nilO v0) fun v22 =>
 bK (fAddr 6 v22) fun v23 =>
 mK (stM 1 v23 v21 h17) fun v24 h25 =>
 bK (ldO 4 true h25 v14) fun v26 =>
 mK (stM 4 v2 v26 h25) fun v27 h28 =>
 bK (ldB 4 true h28 v2) fun v29 =>
 retC v29 h28)
theorem e54 : ikB Tryz.prog 10 Tryz.f54 = S54 := by kernel_rfl
theorem k54 [Sig] (w0 : World) : SOK cW w0 54 S54 := okW Tryz.func54 (by kernel_rfl) e54
noncomputable def S55 (call : CallF) (N : Nat) (l : List NV) (h : H) : R :=
 uc l fun v0 l1 => uc l1 fun v2 l3 => un l3 (
 bK (lenSl v0) fun v4 =>
 bK (lenSl v2) fun v5 =>
 bK (neI v4 v5) fun v6 =>
 condK v6 (
 retC (NV.bool false) h) (
 bK (lenSl v0) fun v7 =>
 joinC 0 (fun h8 =>
 retC (NV.bool true) h8) fun J9 =>
 loopC N 4 (fun L15 v10 v11 v12 v13 h14 =>
 bK (ltI v13 v12) fun v16 =>
 condK v16 (
 bK (ixS 1 v10 v13) fun v17 =>
 bK (ldO 1 false h14 (chkV h14 v17)) fun v18 =>
 bK (ixS 1 v11 v13) fun v19 =>
 bK (ldO 1 false h14 (chkV h14 v19)) fun v20 =>
 bK (neI v18 v20) fun v21 =>
 condK v21 (
 retC (NV.bool false) h14) (
 bK (addI v13 (NV.int .i64 (.ofNat 1))) fun v22 =>
 L15 v10 v11 v12 v22 h14)) (
 J9 h14)) v0 v2 v7 (NV.int .i64 (.ofNat 0)) h))
theorem e55 : ikB Tryz.prog 10 Tryz.f55 = S55 := by kernel_rfl
theorem k55 [Sig] (w0 : World) : SOK cW w0 55 S55 := okW Tryz.func55 (by kernel_rfl) e55
noncomputable def S56 (call : CallF) (N : Nat) (l : List NV) (h : H) : R :=
 uc l fun v0 l1 => un l1 (
 mK (calM call 91 [v0, (NV.int .i64 (.ofNat 2))] h) fun v2 h3 =>
 mK (calM call 90 [v2, (NV.str 1 62)] h3) fun v4 h5 =>
 bK (extO 0 v4) fun v6 =>
 bK (extO 1 v4) fun v7 =>
 bK (extO 2 v4) fun v8 =>
 bK (notO v8) fun v9 =>
 condK v9 (
 retC (NV.tuple [NV.nslice, NV.nslice, (NV.bool false)]) h5) (
 mK (calM call 92 [v6] h5) fun v10 h11 =>
 mK (calM call 92 [v7] h11) fun v12 h13 =>
 retC (NV.tuple [v10, v12, (NV.bool true)]) h13))
theorem e56 : ikB Tryz.prog 10 Tryz.f56 = S56 := by kernel_rfl
theorem k56 [Sig] (w0 : World) : SOK cW w0 56 S56 := okW Tryz.func56 (by kernel_rfl) e56
noncomputable def S57 (call : CallF) (N : Nat) (l : List NV) (h : H) : R :=
 uc l fun v0 l1 => un l1 (
 bK (geI v0 (NV.int .i64 (.ofNat 64768))) fun v2 =>
 condK v2 (
 mK (calM call 93 [v0] h) fun v3 h4 =>
 mK (calM call 94 [v0] h4) fun v5 h6 =>
 jK (fun v7 h8 =>
 jK (fun v10 h11 =>
 jK (fun v13 h14 =>
 jK (fun v16 h17 =>
 jK (fun v19 h20 =>
 jK (fun v22 h23 =>
 jK (fun v25 h26 =>
 jK (fun v28 h29 =>
 jK (fun v31 h32 =>
 jK (fun v34 h35 =>
 bK (pickO v5 v34 (NV.bool false)) fun v37 =>
 retC v37 h35) fun J36 => gK v5 true (
 bK (pickO v25 (NV.bool true) v31) fun v38 =>
 J36 v38 h32) (J36 (NV.tuple []) h32)) fun J33 => gK v25 false (
 bK (eqI v28 (NV.int .i64 (.ofNat 24))) fun v39 =>
 J33 v39 h29) (J33 (NV.tuple []) h29)) fun J30 => gK v25 false (
 J30 v3 h26) (J30 (NV.tuple []) h26)) fun J27 => gK v5 true (
 J27 v22 h23) (J27 (NV.tuple []) h23)) fun J24 => gK v5 true (
 bK (pickO v13 (NV.bool true) v19) fun v40 =>
 J24 v40 h20) (J24 (NV.tuple []) h20)) fun J21 => gK v13 false (
 bK (eqI v16 (NV.int .i64 (.ofNat 25))) fun v41 =>
 J21 v41 h17) (J21 (NV.tuple []) h17)) fun J18 => gK v13 false (
 J18 v3 h14) (J18 (NV.tuple []) h14)) fun J15 => gK v5 true (
 J15 v10 h11) (J15 (NV.tuple []) h11)) fun J12 => gK v5 true (
 bK (eqI v7 (NV.int .i64 (.ofNat 0))) fun v42 =>
 J12 v42 h8) (J12 (NV.tuple []) h8)) fun J9 => gK v5 true (
 J9 v3 h6) (J9 (NV.tuple []) h6)) (
 bK (geI v0 (NV.int .i64 (.ofNat 69))) fun v43 =>
 jK (fun v44 h45 =>
 jK (fun v47 h48 =>
 bK (pickO v43 v47 (NV.bool false)) fun v50 =>
 jK (fun v51 h52 =>
 jK (fun v54 h55 =>
 jK (fun v57 h58 =>
 jK (fun v60 h61 =>
 jK (fun v63 h64 =>
 jK (fun v66 h67 =>
 bK (pickO v50 (NV.bool true) v66) fun v69 =>
 retC v69 h67) fun J68 => gK v50 false (
 bK (pickO v57 v63 (NV.bool false)) fun v70 =>
 J68 v70 h64) (J68 (NV.tuple []) h64)) fun J65 => gK v57 true (
 bK (leI v60 (NV.int .i64 (.ofNat 64519))) fun v71 =>
 J65 v71 h61) (J65 (NV.tuple []) h61)) fun J62 => gK v57 true (
 J62 v0 h58) (J62 (NV.tuple []) h58)) fun J59 => gK v50 false (
 J59 v54 h55) (J59 (NV.tuple []) h55)) fun J56 => gK v50 false (
 bK (geI v51 (NV.int .i64 (.ofNat 64512))) fun v72 =>
 J56 v72 h52) (J56 (NV.tuple []) h52)) fun J53 => gK v50 false (
 J53 v0 h48) (J53 (NV.tuple []) h48)) fun J49 => gK v43 true (
 bK (leI v44 (NV.int .i64 (.ofNat 196))) fun v73 =>
 J49 v73 h45) (J49 (NV.tuple []) h45)) fun J46 => gK v43 true (
 J46 v0 h) (J46 (NV.tuple []) h)))
theorem e57 : ikB Tryz.prog 10 Tryz.f57 = S57 := by kernel_rfl
theorem k57 [Sig] (w0 : World) : SOK cW w0 57 S57 := okW Tryz.func57 (by kernel_rfl) e57
noncomputable def S58 (call : CallF) (N : Nat) (l : List NV) (h : H) : R :=
 uc l fun v0 l1 => uc l1 fun v2 l3 => un l3 (
 mK (boxM false v2 h) fun v4 h5 =>
 bK (fAddr 0 v4) fun v6 =>
 bK (ldO 1 false h5 v6) fun v7 =>
 mK (calM call 56 [v7] h5) fun v8 h9 =>
 bK (extO 0 v8) fun v10 =>
 bK (extO 1 v8) fun v11 =>
 bK (extO 2 v8) fun v12 =>
 bK (nilO v0) fun v13 =>
 bK (fAddr 6 v13) fun v14 =>
 bK (ldO 1 false h9 v14) fun v15 =>
 bK (lenSl v15) fun v16 =>
 bK (lenSl v10) fun v17 =>
 bK (subI v16 v17) fun v18 =>
 bK (fAddr 5 v4) fun v19 =>
 bK (ldO 1 false h9 v19) fun v20 =>
 bK (fAddr 0 v4) fun v21 =>
 bK (ldO 1 false h9 v21) fun v22 =>
 mK (calM call 93 [v22] h9) fun v23 h24 =>
 bK (eqI v23 (NV.int .i64 (.ofNat 25))) fun v25 =>
 joinC 4 (fun v26 v27 v28 v29 h30 =>
 bK (fAddr 0 v27) fun v32 =>
 bK (ldO 1 false h30 (chkV h30 v32)) fun v33 =>
 bK (nilO v26) fun v34 =>
 bK (fAddr 6 v34) fun v35 =>
 bK (ldO 1 false h30 (chkV h30 v35)) fun v36 =>
 bK (slcO Tryz.prog 47 h30 (chkV h30 v36) (some (chkV h30 v28)) none none) fun v37 =>
 mK (calM call 95 [(chkV h30 v33), (chkV h30 v29), (chkV h30 v37)] h30) fun v38 h39 =>
 nextK h30 h39 (
 bK (extO 0 v38) fun v40 =>
 bK (extO 1 v38) fun v41 =>
 mK (alM (NB.cells [(NV.int .i64 (.ofNat 0)), (NV.int .u64 (.ofNat 0)), (NV.int .u64 (.ofNat 0)), (NV.bool false)]) h39) fun v42 h43 =>
 mK (stM 4 (chkV h43 v42) (chkV h43 v40) h43) fun v44 h45 =>
 nextK h43 h45 (
 bK (nilO v26) fun v46 =>
 bK (fAddr 6 v46) fun v47 =>
 bK (ldO 1 false h45 v47) fun v48 =>
 bK (slcO Tryz.prog 47 h45 v48 none (some v28) none) fun v49 =>
 bK (nilO v26) fun v50 =>
 bK (fAddr 6 v50) fun v51 =>
 mK (stM 1 v51 v49 h45) fun v52 h53 =>
 bK (ldO 4 true h53 v42) fun v54 =>
 mK (bslM 1 false [(0, 4)] [(NV.int .i64 (.ofNat 0)), (NV.int .u64 (.ofNat 0)), (NV.int .u64 (.ofNat 0)), (NV.bool false)] [v54] h53) fun v55 h56 =>
 mK (calM call 27 [v26, v55] h56) fun v57 h58 =>
 retC v41 h58))) fun J31 =>
 condK v25 (
 bK (fAddr 1 v4) fun v59 =>
 bK (ldO 1 false h24 v59) fun v60 =>
 mK (bslM 1 false [(0, 1)] [(NV.int .i64 (.ofNat 0))] [v60] h24) fun v61 h62 =>
 J31 v0 v4 v18 v61 h62) (
 J31 v0 v4 v18 v20 h24))
theorem e58 : ikB Tryz.prog 10 Tryz.f58 = S58 := by kernel_rfl
theorem k58 [Sig] (w0 : World) : SOK cW w0 58 S58 := okW Tryz.func58 (by kernel_rfl) e58
noncomputable def S60 (call : CallF) (N : Nat) (l : List NV) (h : H) : R :=
 uc l fun v0 l1 => uc l1 fun v2 l3 => uc l3 fun v4 l5 => un l5 (
 mK (boxM false v4 h) fun v6 h7 =>
 bK (fAddr 0 v6) fun v8 =>
 bK (ldO 1 false h7 v8) fun v9 =>
 bK (eqI v9 (NV.int .i64 (.ofNat 32))) fun v10 =>
 condK v10 (
 bK (nilO v2) fun v11 =>
 bK (fAddr 6 v11) fun v12 =>
 bK (ldO 1 false h7 (chkV h7 v12)) fun v13 =>
 bK (fAddr 1 v6) fun v14 =>
 bK (ldO 1 false h7 (chkV h7 v14)) fun v15 =>
 bK (ixS 4 v13 v15) fun v16 =>
 bK (ldO 4 true h7 (chkV h7 v16)) fun v17 =>
 mK (bslM 1 false [(0, 4)] [(NV.int .i64 (.ofNat 0)), (NV.int .u64 (.ofNat 0)), (NV.int .u64 (.ofNat 0)), (NV.bool false)] [(chkV h7 v17)] h7) fun v18 h19 =>
 mK (calM call 27 [(chkV h19 v0), (chkV h19 v18)] h19) fun v20 h21 =>
 nextK h19 h21 (
 retC (NV.tuple []) h21)) (
 bK (eqI v9 (NV.int .i64 (.ofNat 33))) fun v22 =>
 condK v22 (
 bK (nilO v2) fun v23 =>
 bK (fAddr 6 v23) fun v24 =>
 bK (ldO 1 false h7 (chkV h7 v24)) fun v25 =>
 bK (fAddr 1 v6) fun v26 =>
 bK (ldO 1 false h7 (chkV h7 v26)) fun v27 =>
 mK (calM call 54 [(chkV h7 v0)] h7) fun v28 h29 =>
 nextK h7 h29 (
 bK (ixS 4 v25 v27) fun v30 =>
 bK (ldO 1 false h29 (chkV h29 v24)) fun v31 =>
 sameK v31 v25 (
 bK (ldO 1 false h29 (chkV h29 v26)) fun v32 =>
 sameK v32 v27 (
 mK (stM 4 (chkV h29 v30) (chkV h29 v28) h29) fun v33 h34 =>
 nextK h29 h34 (
 retC (NV.tuple []) h34))))) (
 bK (eqI v9 (NV.int .i64 (.ofNat 34))) fun v35 =>
 condK v35 (
 bK (nilO v2) fun v36 =>
 bK (fAddr 6 v36) fun v37 =>
 bK (ldO 1 false h7 (chkV h7 v37)) fun v38 =>
 bK (fAddr 1 v6) fun v39 =>
 bK (ldO 1 false h7 (chkV h7 v39)) fun v40 =>
 bK (nilO v0) fun v41 =>
 bK (fAddr 6 v41) fun v42 =>
 bK (ldO 1 false h7 (chkV h7 v42)) fun v43 =>
 bK (nilO v0) fun v44 =>
 bK (fAddr 6 v44) fun v45 =>
 bK (ldO 1 false h7 (chkV h7 v45)) fun v46 =>
 bK (lenSl v46) fun v47 =>
 bK (subI v47 (NV.int .i64 (.ofNat 1))) fun v48 =>
 bK (ixS 4 v43 v48) fun v49 =>
 bK (ldO 4 true h7 (chkV h7 v49)) fun v50 =>
 bK (ixS 4 v38 v40) fun v51 =>
 mK (stM 4 (chkV h7 v51) (chkV h7 v50) h7) fun v52 h53 =>
 nextK h7 h53 (
 retC (NV.tuple []) h53)) (
 bK (eqI v9 (NV.int .i64 (.ofNat 35))) fun v54 =>
 condK v54 (
 bK (nilO v0) fun v55 =>
 bK (fAddr 0 v55) fun v56 =>
 bK (ldO 1 false h7 (chkV h7 v56)) fun v57 =>
 bK (nilO v57) fun v58 =>
 bK (fAddr 3 v58) fun v59 =>
 bK (ldO 1 false h7 (chkV h7 v59)) fun v60 =>
 bK (nilO v2) fun v61 =>
 bK (fAddr 4 v61) fun v62 =>
 bK (ldO 1 false h7 (chkV h7 v62)) fun v63 =>
 bK (nilO v63) fun v64 =>
 bK (fAddr 14 v64) fun v65 =>
 bK (ldO 1 false h7 (chkV h7 v65)) fun v66 =>
 bK (fAddr 1 v6) fun v67 =>
 bK (ldO 1 false h7 (chkV h7 v67)) fun v68 =>
 bK (ixS 1 v66 v68) fun v69 =>
 bK (ldO 1 false h7 (chkV h7 v69)) fun v70 =>
 bK (ixS 1 v60 v70) fun v71 =>
 bK (ldO 1 false h7 (chkV h7 v71)) fun v72 =>
 bK (nilO v72) fun v73 =>
 bK (fAddr 2 v73) fun v74 =>
 bK (ldO 4 true h7 (chkV h7 v74)) fun v75 =>
 mK (bslM 1 false [(0, 4)] [(NV.int .i64 (.ofNat 0)), (NV.int .u64 (.ofNat 0)), (NV.int .u64 (.ofNat 0)), (NV.bool false)] [(chkV h7 v75)] h7) fun v76 h77 =>
 mK (calM call 27 [(chkV h77 v0), (chkV h77 v76)] h77) fun v78 h79 =>
 nextK h77 h79 (
 retC (NV.tuple []) h79)) (
 bK (nilO v0) fun v80 =>
 bK (fAddr 0 v80) fun v81 =>
 bK (ldO 1 false h7 (chkV h7 v81)) fun v82 =>
 bK (nilO v82) fun v83 =>
 bK (fAddr 3 v83) fun v84 =>
 bK (ldO 1 false h7 (chkV h7 v84)) fun v85 =>
 bK (nilO v2) fun v86 =>
 bK (fAddr 4 v86) fun v87 =>
 bK (ldO 1 false h7 (chkV h7 v87)) fun v88 =>
 bK (nilO v88) fun v89 =>
 bK (fAddr 14 v89) fun v90 =>
 bK (ldO 1 false h7 (chkV h7 v90)) fun v91 =>
 bK (fAddr 1 v6) fun v92 =>
 bK (ldO 1 false h7 (chkV h7 v92)) fun v93 =>
 bK (ixS 1 v91 v93) fun v94 =>
 bK (ldO 1 false h7 (chkV h7 v94)) fun v95 =>
 bK (ixS 1 v85 v95) fun v96 =>
 bK (ldO 1 false h7 (chkV h7 v96)) fun v97 =>
 mK (calM call 54 [(chkV h7 v0)] h7) fun v98 h99 =>
 nextK h7 h99 (
 bK (nilO v97) fun v100 =>
 bK (fAddr 2 v100) fun v101 =>
 bK (ldO 1 false h99 (chkV h99 v81)) fun v102 =>
 sameK v102 v82 (
 bK (ldO 1 false h99 (chkV h99 v84)) fun v103 =>
 sameK v103 v85 (
 bK (ldO 1 false h99 (chkV h99 v87)) fun v104 =>
 sameK v104 v88 (
 bK (ldO 1 false h99 (chkV h99 v90)) fun v105 =>
 sameK v105 v91 (
 bK (ldO 1 false h99 (chkV h99 v92)) fun v106 =>
 sameK v106 v93 (
 bK (ldO 1 false h99 (chkV h99 v94)) fun v107 =>
 sameK v107 v95 (
 bK (ldO 1 false h99 (chkV h99 v96)) fun v108 =>
 sameK v108 v97 (
 mK (stM 4 (chkV h99 v101) (chkV h99 v98) h99) fun v109 h110 =>
 nextK h99 h110 (
 retC (NV.tuple []) h110))))))))))))))
theorem e60 : ikB Tryz.prog 10 Tryz.f60 = S60 := by kernel_rfl
theorem k60 [Sig] (w0 : World) : SOK cW w0 60 S60 := okW Tryz.func60 (by kernel_rfl) e60
noncomputable def S64 (call : CallF) (N : Nat) (l : List NV) (h : H) : R :=
 uc l fun v0 l1 => uc l1 fun v2 l3 => uc l3 fun v4 l5 => un l5 (
 mK (boxM false v4 h) fun v6 h7 =>
 bK (fAddr 0 v6) fun v8 =>
 bK (ldO 1 false h7 v8) fun v9 =>
 mK (calM call 47 [v9] h7) fun v10 h11 =>
 mK (alM (NB.cells [(NV.int .i64 (.ofNat 0)), (NV.str 0 0), (NV.int .i64 (.ofNat 0)), (NV.str 0 0), (NV.str 0 0), (NV.bool false)]) h11) fun v12 h13 =>
 mK (stM 6 v12 v10 h13) fun v14 h15 =>
 bK (fAddr 1 v12) fun v16 =>
 bK (ldO 1 false h15 v16) fun v17 =>
 bK (binO .eql v17 (NV.str 5 461229747298)) fun v18 =>
 jK (fun v19 h20 =>
 jK (fun v22 h23 =>
 jK (fun v25 h26 =>
 bK (pickO v18 (NV.bool true) v25) fun v28 =>
 condK v28 (
 bK (ldO 9 true h26 v6) fun v29 =>
 bK (fAddr 6 v6) fun v30 =>
 bK (ldO 1 false h26 v30) fun v31 =>
 bK (fAddr 1 v12) fun v32 =>
 bK (ldO 1 false h26 v32) fun v33 =>
 mK (calM call 117 [v0, v2, v29, v31, v33] h26) fun v34 h35 =>
 retC v34 h35) (
 bK (nilO v0) fun v36 =>
 bK (fAddr 4 v36) fun v37 =>
 bK (ldO 1 false h26 (chkV h26 v37)) fun v38 =>
 bK (nilO v0) fun v39 =>
 bK (fAddr 1 v39) fun v40 =>
 bK (ldO 1 false h26 (chkV h26 v40)) fun v41 =>
 bK (eqI v38 v41) fun v42 =>
 condK v42 (
 mK (calM call 118 [v0, (NV.int .i64 (.ofNat 51))] h26) fun v43 h44 =>
 retC (NV.int .i64 (.negSucc 0)) h44) (
 bK (nilO v0) fun v45 =>
 bK (fAddr 4 v45) fun v46 =>
 bK (ldO 1 false h26 v46) fun v47 =>
 bK (addI v47 (NV.int .i64 (.ofNat 1))) fun v48 =>
 bK (nilO v0) fun v49 =>
 bK (fAddr 4 v49) fun v50 =>
 mK (stM 1 v50 v48 h26) fun v51 h52 =>
 bK (fAddr 1 v12) fun v53 =>
 bK (ldO 1 false h52 v53) fun v54 =>
 bK (binO .eql v54 (NV.str 11 122613338161115981086355061)) fun v55 =>
 joinC 0 (fun h56 =>
 retC (NV.int .i64 (.negSucc 0)) h56) fun J57 =>
 condK v55 (
 mK (calM call 118 [v0, (NV.int .i64 (.ofNat 40))] h52) fun v58 h59 =>
 J57 h59) (
 bK (binO .eql v54 (NV.str 3 7368558)) fun v60 =>
 condK v60 (
 J57 h52) (
 bK (binO .eql v54 (NV.str 2 26217)) fun v61 =>
 condK v61 (
 mK (calM call 119 [v2] h52) fun v62 h63 =>
 bK (fldO false 1 1 v62) fun v64 =>
 bK (neI v64 (NV.int .u64 (.ofNat 0))) fun v65 =>
 condK v65 (
 bK (ldO 9 true h63 v6) fun v66 =>
 bK (fAddr 6 v6) fun v67 =>
 bK (ldO 1 false h63 v67) fun v68 =>
 bK (fAddr 1 v12) fun v69 =>
 bK (ldO 1 false h63 v69) fun v70 =>
 mK (calM call 117 [v0, v2, v66, v68, v70] h63) fun v71 h72 =>
 retC v71 h72) (
 bK (ldO 9 true h63 v6) fun v73 =>
 bK (fAddr 7 v6) fun v74 =>
 bK (ldO 1 false h63 v74) fun v75 =>
 bK (fAddr 1 v12) fun v76 =>
 bK (ldO 1 false h63 v76) fun v77 =>
 mK (calM call 117 [v0, v2, v73, v75, v77] h63) fun v78 h79 =>
 retC v78 h79)) (
 bK (binO .eql v54 (NV.str 2 29282)) fun v80 =>
 condK v80 (
 bK (fAddr 1 v6) fun v81 =>
 bK (ldO 1 false h52 v81) fun v82 =>
 retC v82 h52) (
 bK (binO .eql v54 (NV.str 5 439854527074)) fun v83 =>
 condK v83 (
 mK (calM call 119 [v2] h52) fun v84 h85 =>
 bK (fldO false 1 1 v84) fun v86 =>
 bK (neI v86 (NV.int .u64 (.ofNat 0))) fun v87 =>
 condK v87 (
 bK (fAddr 1 v6) fun v88 =>
 bK (ldO 1 false h85 v88) fun v89 =>
 retC v89 h85) (
 J57 h85)) (
 bK (binO .eql v54 (NV.str 8 7308324466019234402)) fun v90 =>
 condK v90 (
 mK (calM call 119 [v2] h52) fun v91 h92 =>
 bK (fldO false 1 1 v91) fun v93 =>
 bK (fAddr 5 v6) fun v94 =>
 bK (ldO 1 false h92 v94) fun v95 =>
 bK (lenSl v95) fun v96 =>
 bK (cvI .u64 v96) fun v97 =>
 bK (ltI v93 v97) fun v98 =>
 condK v98 (
 bK (fAddr 5 v6) fun v99 =>
 bK (ldO 1 false h92 v99) fun v100 =>
 bK (ixS 1 v100 v93) fun v101 =>
 bK (ldO 1 false h92 v101) fun v102 =>
 retC v102 h92) (
 bK (fAddr 1 v6) fun v103 =>
 bK (ldO 1 false h92 v103) fun v104 =>
 retC v104 h92)) (
 bK (binO .eql v54 (NV.str 6 121437875889522)) fun v105 =>
 condK v105 (
 retC (NV.int .i64 (.negSucc 1)) h52) (
 bK (binO .eql v54 (NV.str 4 1819042147)) fun v106 =>
 condK v106 (
 bK (nilO v2) fun v107 =>
 bK (fAddr 0 v107) fun v108 =>
 bK (fAddr 11 v108) fun v109 =>
 bK (ldO 1 false h52 (chkV h52 v109)) fun v110 =>
 bK (fAddr 1 v6) fun v111 =>
 bK (ldO 1 false h52 (chkV h52 v111)) fun v112 =>
 bK (ixS 1 v110 v112) fun v113 =>
 bK (ldO 1 false h52 (chkV h52 v113)) fun v114 =>
 mK (calM call 120 [(chkV h52 v0), (chkV h52 v2), (chkV h52 v114)] h52) fun v115 h116 =>
 nextK h52 h116 (
 J57 h116)) (
 bK (binO .eql v54 (NV.str 13 9221228509428681412590346985827)) fun v117 =>
 condK v117 (
 bK (ldO 9 true h52 v6) fun v118 =>
 mK (calM call 121 [v0, v2, v118] h52) fun v119 h120 =>
 J57 h120) (
 bK (ldO 9 true h52 v6) fun v121 =>
 bK (ldO 6 true h52 v12) fun v122 =>
 mK (calM call 122 [v0, v2, v121, v122] h52) fun v123 h124 =>
 J57 h124)))))))))))) fun J27 => gK v18 false (
 bK (binO .eql v22 (NV.str 4 1886351212)) fun v125 =>
 J27 v125 h23) (J27 (NV.tuple []) h23)) fun J24 => gK v18 false (
 bK (ldO 1 false h20 v19) fun v126 =>
 J24 v126 h20) (J24 (NV.tuple []) h20)) fun J21 => gK v18 false (
 bK (fAddr 1 v12) fun v127 =>
 J21 v127 h15) (J21 (NV.tuple []) h15))
theorem e64 : ikB Tryz.prog 10 Tryz.f64 = S64 := by kernel_rfl
theorem k64 [Sig] (w0 : World) : SOK cW w0 64 S64 := okW Tryz.func64 (by kernel_rfl) e64
noncomputable def S65 (call : CallF) (N : Nat) (l : List NV) (h : H) : R :=
 uc l fun v0 l1 => un l1 (
 joinC 0 (fun h2 =>
 retC (NV.bool true) h2) fun J3 =>
 loopC N 2 (fun L7 v4 v5 h6 =>
 bK (lenSl v4) fun v8 =>
 bK (ltI v5 v8) fun v9 =>
 condK v9 (
 bK (ixS 9 v4 v5) fun v10 =>
 bK (ldO 9 true h6 v10) fun v11 =>
 mK (calM call 123 [v11] h6) fun v12 h13 =>
 bK (ixS 9 v4 v5) fun v14 =>
 bK (fAddr 6 v14) fun v15 =>
 bK (ldO 1 false h13 v15) fun v16 =>
 mK (calM call 65 [v16] h13) fun v17 h18 =>
 bK (ixS 9 v4 v5) fun v19 =>
 bK (fAddr 7 v19) fun v20 =>
 bK (ldO 1 false h18 v20) fun v21 =>
 mK (calM call 65 [v21] h18) fun v22 h23 =>
 bK (notO v12) fun v24 =>
 jK (fun v25 h26 =>
 jK (fun v28 h29 =>
 bK (pickO v24 (NV.bool true) v28) fun v31 =>
 jK (fun v32 h33 =>
 jK (fun v35 h36 =>
 bK (pickO v31 (NV.bool true) v35) fun v38 =>
 condK v38 (
 retC (NV.bool false) h36) (
 bK (addI v5 (NV.int .i64 (.ofNat 1))) fun v39 =>
 L7 v4 v39 h36)) fun J37 => gK v31 false (
 bK (notO v32) fun v40 =>
 J37 v40 h33) (J37 (NV.tuple []) h33)) fun J34 => gK v31 false (
 J34 v22 h29) (J34 (NV.tuple []) h29)) fun J30 => gK v24 false (
 bK (notO v25) fun v41 =>
 J30 v41 h26) (J30 (NV.tuple []) h26)) fun J27 => gK v24 false (
 J27 v17 h23) (J27 (NV.tuple []) h23)) (
 J3 h6)) v0 (NV.int .i64 (.ofNat 0)) h)
theorem e65 : ikB Tryz.prog 10 Tryz.f65 = S65 := by kernel_rfl
theorem k65 [Sig] (w0 : World) : SOK cW w0 65 S65 := okW Tryz.func65 (by kernel_rfl) e65
noncomputable def S66 (call : CallF) (N : Nat) (l : List NV) (h : H) : R :=
 uc l fun v0 l1 => un l1 (
 joinC 1 (fun v2 h3 =>
 retC v2 h3) fun J4 =>
 loopC N 3 (fun L9 v5 v6 v7 h8 =>
 bK (lenSl v5) fun v10 =>
 bK (ltI v7 v10) fun v11 =>
 condK v11 (
 bK (ixS 9 v5 v7) fun v12 =>
 bK (fAddr 6 v12) fun v13 =>
 bK (ldO 1 false h8 v13) fun v14 =>
 mK (calM call 66 [v14] h8) fun v15 h16 =>
 bK (ixS 9 v5 v7) fun v17 =>
 bK (fAddr 7 v17) fun v18 =>
 bK (ldO 1 false h16 v18) fun v19 =>
 mK (calM call 66 [v19] h16) fun v20 h21 =>
 bK (gtI v20 v15) fun v22 =>
 joinC 4 (fun v23 v24 v25 v26 h27 =>
 bK (addI v26 (NV.int .i64 (.ofNat 1))) fun v29 =>
 bK (gtI v29 v24) fun v30 =>
 joinC 3 (fun v31 v32 v33 h34 =>
 bK (addI v33 (NV.int .i64 (.ofNat 1))) fun v36 =>
 L9 v31 v32 v36 h34) fun J35 =>
 condK v30 (
 bK (addI v26 (NV.int .i64 (.ofNat 1))) fun v37 =>
 J35 v23 v37 v25 h27) (
 J35 v23 v24 v25 h27)) fun J28 =>
 condK v22 (
 J28 v5 v6 v7 v20 h21) (
 J28 v5 v6 v7 v15 h21)) (
 J4 v6 h8)) v0 (NV.int .i64 (.ofNat 0)) (NV.int .i64 (.ofNat 0)) h)
theorem e66 : ikB Tryz.prog 10 Tryz.f66 = S66 := by kernel_rfl
theorem k66 [Sig] (w0 : World) : SOK cW w0 66 S66 := okW Tryz.func66 (by kernel_rfl) e66
noncomputable def S67 (call : CallF) (N : Nat) (l : List NV) (h : H) : R :=
 uc l fun v0 l1 => un l1 (
 bK (eqI v0 (NV.int .i64 (.ofNat 112))) fun v2 =>
 jK (fun v3 h4 =>
 jK (fun v6 h7 =>
 bK (pickO v2 (NV.bool true) v6) fun v9 =>
 retC v9 h7) fun J8 => gK v2 false (
 bK (eqI v3 (NV.int .i64 (.ofNat 111))) fun v10 =>
 J8 v10 h4) (J8 (NV.tuple []) h4)) fun J5 => gK v2 false (
 J5 v0 h) (J5 (NV.tuple []) h))
theorem e67 : ikB Tryz.prog 10 Tryz.f67 = S67 := by kernel_rfl
theorem k67 [Sig] (w0 : World) : SOK cW w0 67 S67 := okW Tryz.func67 (by kernel_rfl) e67
noncomputable def S68 (call : CallF) (N : Nat) (l : List NV) (h : H) : R :=
 uc l fun v0 l1 => un l1 (
 joinC 0 (fun h2 =>
 retC (NV.bool true) h2) fun J3 =>
 loopC N 2 (fun L7 v4 v5 h6 =>
 bK (lenStr v4) fun v8 =>
 bK (ltI v5 v8) fun v9 =>
 condK v9 (
 bK (ixStr v4 v5) fun v10 =>
 bK (cvI .i64 v10) fun v11 =>
 bK (geI v11 (NV.int .i64 (.ofNat 240))) fun v12 =>
 jK (fun v13 h14 =>
 jK (fun v16 h17 =>
 bK (pickO v12 v16 (NV.bool false)) fun v19 =>
 joinC 5 (fun v20 v21 v22 v23 v24 h25 =>
 bK (addI v21 v23) fun v27 =>
 bK (lenStr v20) fun v28 =>
 bK (gtI v27 v28) fun v29 =>
 condK v29 (
 retC (NV.bool false) h25) (
 joinC 5 (fun v30 v31 v32 v33 v34 h35 =>
 bK (ltI v32 v34) fun v37 =>
 jK (fun v38 h39 =>
 jK (fun v41 h42 =>
 bK (pickO v37 (NV.bool true) v41) fun v44 =>
 jK (fun v45 h46 =>
 jK (fun v48 h49 =>
 jK (fun v51 h52 =>
 jK (fun v54 h55 =>
 jK (fun v57 h58 =>
 jK (fun v60 h61 =>
 bK (pickO v44 (NV.bool true) v60) fun v63 =>
 condK v63 (
 retC (NV.bool false) h61) (
 bK (addI v31 v33) fun v64 =>
 L7 v30 v64 h61)) fun J62 => gK v44 false (
 bK (pickO v51 v57 (NV.bool false)) fun v65 =>
 J62 v65 h58) (J62 (NV.tuple []) h58)) fun J59 => gK v51 true (
 bK (ltI v54 (NV.int .i64 (.ofNat 57344))) fun v66 =>
 J59 v66 h55) (J59 (NV.tuple []) h55)) fun J56 => gK v51 true (
 J56 v32 h52) (J56 (NV.tuple []) h52)) fun J53 => gK v44 false (
 J53 v48 h49) (J53 (NV.tuple []) h49)) fun J50 => gK v44 false (
 bK (gtI v45 (NV.int .i64 (.ofNat 55295))) fun v67 =>
 J50 v67 h46) (J50 (NV.tuple []) h46)) fun J47 => gK v44 false (
 J47 v32 h42) (J47 (NV.tuple []) h42)) fun J43 => gK v37 false (
 bK (gtI v38 (NV.int .i64 (.ofNat 1114111))) fun v68 =>
 J43 v68 h39) (J43 (NV.tuple []) h39)) fun J40 => gK v37 false (
 J40 v32 h35) (J40 (NV.tuple []) h35)) fun J36 =>
 loopC N 6 (fun L76 v69 v70 v71 v72 v73 v74 h75 =>
 bK (ltI v74 v72) fun v77 =>
 condK v77 (
 bK (addI v70 v74) fun v78 =>
 bK (ixStr v69 v78) fun v79 =>
 bK (cvI .i64 v79) fun v80 =>
 bK (ltI v80 (NV.int .i64 (.ofNat 128))) fun v81 =>
 jK (fun v82 h83 =>
 jK (fun v85 h86 =>
 bK (pickO v81 (NV.bool true) v85) fun v88 =>
 condK v88 (
 retC (NV.bool false) h86) (
 bK (binO .mul v71 (NV.int .i64 (.ofNat 64))) fun v89 =>
 bK (addI v89 v80) fun v90 =>
 bK (subI v90 (NV.int .i64 (.ofNat 128))) fun v91 =>
 bK (addI v74 (NV.int .i64 (.ofNat 1))) fun v92 =>
 L76 v69 v70 v91 v72 v73 v92 h86)) fun J87 => gK v81 false (
 bK (gtI v82 (NV.int .i64 (.ofNat 191))) fun v93 =>
 J87 v93 h83) (J87 (NV.tuple []) h83)) fun J84 => gK v81 false (
 J84 v80 h75) (J84 (NV.tuple []) h75)) (
 J36 v69 v70 v71 v72 v73 h75)) v20 v21 v22 v23 v24 (NV.int .i64 (.ofNat 1)) h25)) fun J26 =>
 condK v19 (
 bK (subI v11 (NV.int .i64 (.ofNat 240))) fun v94 =>
 J26 v4 v5 v94 (NV.int .i64 (.ofNat 4)) (NV.int .i64 (.ofNat 65536)) h17) (
 bK (geI v11 (NV.int .i64 (.ofNat 224))) fun v95 =>
 jK (fun v96 h97 =>
 jK (fun v99 h100 =>
 bK (pickO v95 v99 (NV.bool false)) fun v102 =>
 condK v102 (
 bK (subI v11 (NV.int .i64 (.ofNat 224))) fun v103 =>
 J26 v4 v5 v103 (NV.int .i64 (.ofNat 3)) (NV.int .i64 (.ofNat 2048)) h100) (
 bK (geI v11 (NV.int .i64 (.ofNat 192))) fun v104 =>
 jK (fun v105 h106 =>
 jK (fun v108 h109 =>
 bK (pickO v104 v108 (NV.bool false)) fun v111 =>
 condK v111 (
 bK (subI v11 (NV.int .i64 (.ofNat 192))) fun v112 =>
 J26 v4 v5 v112 (NV.int .i64 (.ofNat 2)) (NV.int .i64 (.ofNat 128)) h109) (
 bK (geI v11 (NV.int .i64 (.ofNat 128))) fun v113 =>
 condK v113 (
 retC (NV.bool false) h109) (
 J26 v4 v5 v11 (NV.int .i64 (.ofNat 1)) (NV.int .i64 (.ofNat 0)) h109))) fun J110 => gK v104 true (
 bK (ltI v105 (NV.int .i64 (.ofNat 224))) fun v114 =>
 J110 v114 h106) (J110 (NV.tuple []) h106)) fun J107 => gK v104 true (
 J107 v11 h100) (J107 (NV.tuple []) h100))) fun J101 => gK v95 true (
 bK (ltI v96 (NV.int .i64 (.ofNat 240))) fun v115 =>
 J101 v115 h97) (J101 (NV.tuple []) h97)) fun J98 => gK v95 true (
 J98 v11 h17) (J98 (NV.tuple []) h17))) fun J18 => gK v12 true (
 bK (ltI v13 (NV.int .i64 (.ofNat 248))) fun v116 =>
 J18 v116 h14) (J18 (NV.tuple []) h14)) fun J15 => gK v12 true (
 J15 v11 h6) (J15 (NV.tuple []) h6)) (
 J3 h6)) v0 (NV.int .i64 (.ofNat 0)) h)
theorem e68 : ikB Tryz.prog 10 Tryz.f68 = S68 := by kernel_rfl
theorem k68 [Sig] (w0 : World) : SOK cW w0 68 S68 := okW Tryz.func68 (by kernel_rfl) e68
noncomputable def S69 (call : CallF) (N : Nat) (l : List NV) (h : H) : R :=
 uc l fun v0 l1 => uc l1 fun v2 l3 => uc l3 fun v4 l5 => un l5 (
 bK (neI v0 (NV.int .i64 (.ofNat 0))) fun v6 =>
 condK v6 (
 bK (eqI v2 (NV.int .i64 (.ofNat 0))) fun v7 =>
 jK (fun v8 h9 =>
 jK (fun v11 h12 =>
 jK (fun v14 h15 =>
 bK (pickO v7 v14 (NV.bool false)) fun v17 =>
 retC v17 h15) fun J16 => gK v7 true (
 bK (eqI v11 (NV.int .i64 (.ofNat 0))) fun v18 =>
 J16 v18 h12) (J16 (NV.tuple []) h12)) fun J13 => gK v7 true (
 bK (lenSl v8) fun v19 =>
 J13 v19 h9) (J13 (NV.tuple []) h9)) fun J10 => gK v7 true (
 J10 v4 h) (J10 (NV.tuple []) h)) (
 mK (calM call 39 [v2] h) fun v20 h21 =>
 mK (calM call 40 [v4] h21) fun v22 h23 =>
 jK (fun v24 h25 =>
 bK (pickO v20 v24 (NV.bool false)) fun v27 =>
 retC v27 h25) fun J26 => gK v20 true (
 J26 v22 h23) (J26 (NV.tuple []) h23)))
theorem e69 : ikB Tryz.prog 10 Tryz.f69 = S69 := by kernel_rfl
theorem k69 [Sig] (w0 : World) : SOK cW w0 69 S69 := okW Tryz.func69 (by kernel_rfl) e69
noncomputable def S70 (call : CallF) (N : Nat) (l : List NV) (h : H) : R :=
 uc l fun v0 l1 => un l1 (
 bK (bldO [(0, 1), (1, 1), (2, 1), (3, 1), (4, 1), (5, 1), (6, 1), (7, 1), (8, 1), (9, 1), (10, 1), (11, 1), (12, 1), (13, 1), (14, 1), (15, 1), (16, 1), (17, 1), (18, 1), (19, 1), (20, 1), (21, 1), (22, 1), (23, 1), (24, 1), (25, 1), (26, 1), (27, 1), (28, 1), (29, 1), (30, 1), (31, 1), (32, 1), (33, 1), (34, 1), (35, 1), (36, 1), (37, 1), (38, 1), (39, 1), (40, 1), (41, 1), (42, 1), (43, 1), (44, 1), (45, 1), (46, 1), (47, 1), (48, 1), (49, 1), (50, 1), (51, 1), (52, 1), (53, 1), (54, 1), (55, 1), (56, 1), (57, 1), (58, 1), (59, 1), (60, 1), (61, 1), (62, 1), (63, 1), (64, 1), (65, 1), (66, 1), (67, 1), (68, 1), (69, 1), (70, 1), (71, 1), (72, 1), (73, 1), (74, 1), (75, 1), (76, 1), (77, 1), (78, 1), (79, 1), (80, 1), (81, 1), (82, 1), (83, 1), (84, 1), (85, 1), (86, 1), (87, 1), (88, 1), (89, 1), (90, 1), (91, 1), (92, 1), (93, 1), (94, 1), (95, 1), (96, 1), (97, 1), (98, 1), (99, 1), (100, 1), (101, 1), (102, 1), (103, 1), (104, 1), (105, 1), (106, 1), (107, 1), (108, 1), (109, 1), (110, 1), (111, 1), (112, 1), (113, 1), (114, 1), (115, 1), (116, 1), (117, 1), (118, 1), (119, 1), (120, 1), (121, 1), (122, 1), (123, 1), (124, 1), (125, 1), (126, 1), (127, 1), (128, 1), (129, 1), (130, 1), (131, 1), (132, 1), (133, 1), (134, 1), (135, 1), (136, 1), (137, 1), (138, 1), (139, 1), (140, 1), (141, 1), (142, 1), (143, 1), (144, 1), (145, 1), (146, 1), (147, 1), (148, 1), (149, 1), (150, 1), (151, 1), (152, 1), (153, 1), (154, 1), (155, 1), (156, 1), (157, 1), (158, 1), (159, 1), (160, 1), (161, 1), (162, 1), (163, 1), (164, 1), (165, 1), (166, 1), (167, 1), (168, 1), (169, 1), (170, 1), (171, 1), (172, 1), (173, 1), (174, 1), (175, 1), (176, 1), (177, 1), (178, 1), (179, 1), (180, 1), (181, 1), (182, 1), (183, 1), (184, 1), (185, 1), (186, 1), (187, 1), (188, 1), (189, 1), (190, 1), (191, 1), (192, 1), (193, 1), (194, 1), (195, 1), (196, 1), (197, 1), (198, 1), (199, 1), (200, 1), (201, 1), (202, 1), (203, 1), (204, 1), (205, 1), (206, 1), (207, 1), (208, 1), (209, 1), (210, 1)] [(NV.str 0 0), (NV.str 0 0), (NV.str 0 0), (NV.str 0 0), (NV.str 0 0), (NV.str 0 0), (NV.str 0 0), (NV.str 0 0), (NV.str 0 0), (NV.str 0 0), (NV.str 0 0), (NV.str 0 0), (NV.str 0 0), (NV.str 0 0), (NV.str 0 0), (NV.str 0 0), (NV.str 0 0), (NV.str 0 0), (NV.str 0 0), (NV.str 0 0), (NV.str 0 0), (NV.str 0 0), (NV.str 0 0), (NV.str 0 0), (NV.str 0 0), (NV.str 0 0), (NV.str 0 0), (NV.str 0 0), (NV.str 0 0), (NV.str 0 0), (NV.str 0 0), (NV.str 0 0), (NV.str 0 0), (NV.str 0 0), (NV.str 0 0), (NV.str 0 0), (NV.str 0 0), (NV.str 0 0), (NV.str 0 0), (NV.str 0 0), (NV.str 0 0), (NV.str 0 0), (NV.str 0 0), (NV.str 0 0), (NV.str 0 0), (NV.str 0 0), (NV.str 0 0), (NV.str 0 0), (NV.str 0 0), (NV.str 0 0), (NV.str 0 0), (NV.str 0 0), (NV.str 0 0), (NV.str 0 0), (NV.str 0 0), (NV.str 0 0), (NV.str 0 0), (NV.str 0 0), (NV.str 0 0), (NV.str 0 0), (NV.str 0 0), (NV.str 0 0), (NV.str 0 0), (NV.str 0 0), (NV.str 0 0), (NV.str 0 0), (NV.str 0 0), (NV.str 0 0), (NV.str 0 0), (NV.str 0 0), (NV.str 0 0), (NV.str 0 0), (NV.str 0 0), (NV.str 0 0), (NV.str 0 0), (NV.str 0 0), (NV.str 0 0), (NV.str 0 0), (NV.str 0 0), (NV.str 0 0), (NV.str 0 0), (NV.str 0 0), (NV.str 0 0), (NV.str 0 0), (NV.str 0 0), (NV.str 0 0), (NV.str 0 0), (NV.str 0 0), (NV.str 0 0), (NV.str 0 0), (NV.str 0 0), (NV.str 0 0), (NV.str 0 0), (NV.str 0 0), (NV.str 0 0), (NV.str 0 0), (NV.str 0 0), (NV.str 0 0), (NV.str 0 0), (NV.str 0 0), (NV.str 0 0), (NV.str 0 0), (NV.str 0 0), (NV.str 0 0), (NV.str 0 0), (NV.str 0 0), (NV.str 0 0), (NV.str 0 0), (NV.str 0 0), (NV.str 0 0), (NV.str 0 0), (NV.str 0 0), (NV.str 0 0), (NV.str 0 0), (NV.str 0 0), (NV.str 0 0), (NV.str 0 0), (NV.str 0 0), (NV.str 0 0), (NV.str 0 0), (NV.str 0 0), (NV.str 0 0), (NV.str 0 0), (NV.str 0 0), (NV.str 0 0), (NV.str 0 0), (NV.str 0 0), (NV.str 0 0), (NV.str 0 0), (NV.str 0 0), (NV.str 0 0), (NV.str 0 0), (NV.str 0 0), (NV.str 0 0), (NV.str 0 0), (NV.str 0 0), (NV.str 0 0), (NV.str 0 0), (NV.str 0 0), (NV.str 0 0), (NV.str 0 0), (NV.str 0 0), (NV.str 0 0), (NV.str 0 0), (NV.str 0 0), (NV.str 0 0), (NV.str 0 0), (NV.str 0 0), (NV.str 0 0), (NV.str 0 0), (NV.str 0 0), (NV.str 0 0), (NV.str 0 0), (NV.str 0 0), (NV.str 0 0), (NV.str 0 0), (NV.str 0 0), (NV.str 0 0), (NV.str 0 0), (NV.str 0 0), (NV.str 0 0), (NV.str 0 0), (NV.str 0 0), (NV.str 0 0), (NV.str 0 0), (NV.str 0 0), (NV.str 0 0), (NV.str 0 0), (NV.str 0 0), (NV.str 0 0), (NV.str 0 0), (NV.str 0 0), (NV.str 0 0), (NV.str 0 0), (NV.str 0 0), (NV.str 0 0), (NV.str 0 0), (NV.str 0 0), (NV.str 0 0), (NV.str 0 0), (NV.str 0 0), (NV.str 0 0), (NV.str 0 0), (NV.str 0 0), (NV.str 0 0), (NV.str 0 0), (NV.str 0 0), (NV.str 0 0), (NV.str 0 0), (NV.str 0 0), (NV.str 0 0), (NV.str 0 0), (NV.str 0 0), (NV.str 0 0), (NV.str 0 0), (NV.str 0 0), (NV.str 0 0), (NV.str 0 0), (NV.str 0 0), (NV.str 0 0), (NV.str 0 0), (NV.str 0 0), (NV.str 0 0), (NV.str 0 0), (NV.str 0 0), (NV.str 0 0), (NV.str 0 0), (NV.str 0 0), (NV.str 0 0), (NV.str 0 0), (NV.str 0 0)] [(NV.str 15 327767552172945331183350251170983541), (NV.str 7 17486839630819182), (NV.str 9 1164464547572376104034), (NV.str 8 4548689639039266668), (NV.str 6 69407495710313), (NV.str 0 0), (NV.str 0 0), (NV.str 0 0), (NV.str 0 0), (NV.str 0 0), (NV.str 0 0), (NV.str 0 0), (NV.str 6 69407512490594), (NV.str 9 1164464829025977594466), (NV.str 12 19536482683267168639882588770), (NV.str 10 298102852124297305286002), (NV.str 8 4548692937506840931), (NV.str 17 21480600261876078678271969189338205151587), (NV.str 0 0), (NV.str 0 0), (NV.str 0 0), (NV.str 0 0), (NV.str 0 0), (NV.str 0 0), (NV.str 0 0), (NV.str 0 0), (NV.str 8 4548688539527639652), (NV.str 10 298102852130829681583475), (NV.str 10 298103284476393909151091), (NV.str 0 0), (NV.str 0 0), (NV.str 0 0), (NV.str 13 5001344402895871739539482701676), (NV.str 13 5001344402895875117239203229548), (NV.str 13 5001344402619174237608536665964), (NV.str 14 1280344476626352986667176279632999), (NV.str 14 1280344476626353851358304734768231), (NV.str 13 5001346820747510968767951823220), (NV.str 13 5001346820747514346467672351092), (NV.str 0 0), (NV.str 15 546457008460428049428634524118561641), (NV.str 15 562033899036032532314226013106353769), (NV.str 15 530880117884823566543043035130901350), (NV.str 15 520495524167753911285982042472592998), (NV.str 18 9168027265654428855846305424485748109882217), (NV.str 18 9168027265654428858264157063715006459294569), (NV.str 19 2347014980007533787096643803363673714847789929), (NV.str 19 2347014980007533787715613823006363852297352041), (NV.str 18 9429364123449709595786177122993346096412265), (NV.str 18 9429364123449709598204028762222604445824617), (NV.str 19 2413917215603125656521250958181618799365863017), (NV.str 19 2413917215603125657140220977824308936815425129), (NV.str 19 2413917215603125656521232105609175468204111465), (NV.str 19 2413917215603125657140202125251865605653673577), (NV.str 16 82959459112035195726565278189186331497), (NV.str 16 82975036002610800209450869678174123625), (NV.str 16 82943882221459591243679686700198671206), (NV.str 16 82933497627742521588422625707540362854), (NV.str 17 21237621532681009893254626581142469489513), (NV.str 18 5436831112366338530009530115527837092033385), (NV.str 17 21241609216668364640873338002323310655081), (NV.str 18 5437851959467101345399920239350132396799593), (NV.str 18 5437851959467101340573661693857354988402281), (NV.str 17 35812227813666953304285268971732295574893), (NV.str 18 9168027265674711270362288350078981819426157), (NV.str 15 546451230376424881116632515876107113), (NV.str 15 562028121261514373823569073588680297), (NV.str 15 530874340419790417873731164338008934), (NV.str 15 520489747012205772438015240404481638), (NV.str 13 8338272223821249852648853746537), (NV.str 13 8338272568259982785710304408425), (NV.str 13 8338272568259982772554819580777), (NV.str 15 546457031033486231986814062760702825), (NV.str 15 546457031033486232130929250836558697), (NV.str 15 546457031033486231986814041285866345), (NV.str 15 546457031033486232130929229361722217), (NV.str 15 546457031033486231986797570086286185), (NV.str 15 546457031033486232130912758162142057), (NV.str 15 546457031033486231986797548611449705), (NV.str 15 546457031033486232130912736687305577), (NV.str 13 8338275850598708696536377996905), (NV.str 13 8338276209204541078206764299881), (NV.str 13 8338276209204541065051279472233), (NV.str 15 546457269646428804243862049567028841), (NV.str 15 546457269646428804387977237642884713), (NV.str 15 546457269646428804243862028092192361), (NV.str 15 546457269646428804387977216168048233), (NV.str 15 546457269646428804243845556892612201), (NV.str 15 546457269646428804387960744968468073), (NV.str 15 546457269646428804243845535417775721), (NV.str 15 546457269646428804387960723493631593), (NV.str 13 8338268927315424493213844648806), (NV.str 13 8338268927315424480058359821158), (NV.str 13 8338268927315424496542444303206), (NV.str 13 8338268927315424496520969466726), (NV.str 13 8338268927315424480049769886566), (NV.str 13 8338268927315424480028295050086), (NV.str 13 8338266500019052298216204940902), (NV.str 13 8338266500019052285060720113254), (NV.str 13 8338266500019052301544804595302), (NV.str 13 8338266500019052301523329758822), (NV.str 13 8338266500019052285052130178662), (NV.str 13 8338266500019052285030655342182), (NV.str 13 8338272223821249847142705673065), (NV.str 13 8338272223821249855938798695273), (NV.str 16 139892994165849425778193391510663345001), (NV.str 14 2134597777474555589481782695834473), (NV.str 14 2134597777474555588937601749496681), (NV.str 14 2134597777474555591752325746799465), (NV.str 16 139892999944572475388624959950019507049), (NV.str 16 139892999944572475425518448097438610281), (NV.str 16 139892999944572475388622422337312142185), (NV.str 16 139892999944572475425515910484731245417), (NV.str 14 2134597777474555589492777812112233), (NV.str 13 8338272568259982786852765709161), (NV.str 14 2134597777474555593434625781937001), (NV.str 14 2134597777474555591738057865442153), (NV.str 16 139892999944572475388623833015025546089), (NV.str 16 139892999944572475425517321162444649321), (NV.str 15 546457031033486231488316407217795945), (NV.str 15 546457031033486231920661971445363561), (NV.str 13 8575960338141501703810861774441), (NV.str 13 8575960338141501712606954796649), (NV.str 16 143880739000432984351916084533258368617), (NV.str 14 2195445938367317523632718148286057), (NV.str 14 2195445938367317523088537201948265), (NV.str 14 2195445938367317525903261199251049), (NV.str 16 143880745016840521505140665753246381673), (NV.str 16 143880745016840521542034153900665484905), (NV.str 16 143880745016840521505138128140539016809), (NV.str 16 143880745016840521542031616287958120041), (NV.str 14 2195445938367317523643713264563817), (NV.str 13 8575960696747334092129857451625), (NV.str 14 2195445938367317527585561234388585), (NV.str 14 2195445938367317525888993317893737), (NV.str 16 143880745016840521505139538818252420713), (NV.str 16 143880745016840521542033026965671523945), (NV.str 15 562034160222033286630955883011782249), (NV.str 15 562034160222033287063301447239349865), (NV.str 13 8100584109500996009146006516582), (NV.str 13 8100584109500992634800655446886), (NV.str 14 2073749532032254475913169852314470), (NV.str 15 530879880200257256949406374500119398), (NV.str 15 530879880200256980177883181878489958), (NV.str 17 34791743828804062027993364878159753917286), (NV.str 14 2073749532032255054920459805143910), (NV.str 14 2073749616581793655330847243514726), (NV.str 14 2073749616581793654786666297176934), (NV.str 14 2073749616581793657601390294479718), (NV.str 14 2073749616581793660402907267347302), (NV.str 14 2073749616581793658151146108367718), (NV.str 14 2073749616581793660957099782452070), (NV.str 19 2280111816527703826117084885104847133433017190), (NV.str 13 7942125366620828104700569335398), (NV.str 13 7942125366620824730355218265702), (NV.str 14 2033184093854931492375137900312166), (NV.str 15 520495128026862573163670194753910374), (NV.str 15 520495128026862296392147002132280934), (NV.str 17 34111168710368468031411358602303559186022), (NV.str 14 2033184093854932071382427853141606), (NV.str 14 2033184175986619032563556942100070), (NV.str 14 2033184175986619032019375995762278), (NV.str 14 2033184175986619034834099993065062), (NV.str 14 2033184175986619037635616965932646), (NV.str 14 2033184175986619035383855806953062), (NV.str 14 2033184175986619038189809481037414), (NV.str 19 2235509642907452746387254776002721426324076134), (NV.str 18 9168031253337075447834847025118878901613417), (NV.str 21 153813906827515972354792814719229369436366500410217), (NV.str 21 153813906827515982739386531788884626497359158850409), (NV.str 21 153813862226025575293705916427850816850036750693225), (NV.str 21 153813862226025585678299633497506073911029409133417), (NV.str 22 40498810532286534835525964147540208006911372259767913), (NV.str 22 40498810532286537493981955717371953814525492820457065), (NV.str 21 158198411739508681109403869217378218495334298170985), (NV.str 21 158198411739508691493997586287033475556326956611177), (NV.str 21 158198367138018284048316970925999665909004548453993), (NV.str 21 158198367138018294432910687995654922969997206894185), (NV.str 23 9793009668440644596010266686608289008633361334015243110), (NV.str 23 9793009668440645276575000528485215935382576197551666022), (NV.str 23 9793014052945556588729466738608667767750753136225170278), (NV.str 23 9793014052945557269294200580485594694499967999761593190), (NV.str 20 583708427007939603893703423388374749582376186726), (NV.str 23 9601447725832408488715473308214500360681018943742424678), (NV.str 23 9601447725832409169280207150091427287430233807278847590), (NV.str 23 9601452110337320481434673360214879119798410745952351846), (NV.str 23 9601452110337321161999407202091806046547625609488774758), (NV.str 21 146506398640861119376186043912817649648091369059942), (NV.str 25 660625699494170760817850004513665363006326852999658830181225), (NV.str 25 679456813138388239736077332846436991477294210794981659260521), (NV.str 25 641794681630924630881524425534872769831381839002147440702310), (NV.str 25 629240765503065226570841043735052050693457300431125779592806), (NV.str 19 2347014980007195555834240459701630947512431465), (NV.str 20 600835834881842062292884885388448385621157884777), (NV.str 19 2413918236449888188074238004643398327335138921), (NV.str 20 617963068531171376146324256893540834855737374313), (NV.str 20 617963068531171376145088734705894683839187662441), (NV.str 0 0), (NV.str 0 0), (NV.str 0 0), (NV.str 0 0), (NV.str 0 0), (NV.str 0 0), (NV.str 0 0), (NV.str 0 0), (NV.str 0 0), (NV.str 0 0), (NV.str 0 0), (NV.str 13 5001343272701261720108883404146), (NV.str 15 327767552181408163343023129200321906), (NV.str 13 8734324878964745910403536938354)]) fun v2 =>
 mK (alM (NB.cells [(NV.str 0 0), (NV.str 0 0), (NV.str 0 0), (NV.str 0 0), (NV.str 0 0), (NV.str 0 0), (NV.str 0 0), (NV.str 0 0), (NV.str 0 0), (NV.str 0 0), (NV.str 0 0), (NV.str 0 0), (NV.str 0 0), (NV.str 0 0), (NV.str 0 0), (NV.str 0 0), (NV.str 0 0), (NV.str 0 0), (NV.str 0 0), (NV.str 0 0), (NV.str 0 0), (NV.str 0 0), (NV.str 0 0), (NV.str 0 0), (NV.str 0 0), (NV.str 0 0), (NV.str 0 0), (NV.str 0 0), (NV.str 0 0), (NV.str 0 0), (NV.str 0 0), (NV.str 0 0), (NV.str 0 0), (NV.str 0 0), (NV.str 0 0), (NV.str 0 0), (NV.str 0 0), (NV.str 0 0), (NV.str 0 0), (NV.str 0 0), (NV.str 0 0), (NV.str 0 0), (NV.str 0 0), (NV.str 0 0), (NV.str 0 0), (NV.str 0 0), (NV.str 0 0), (NV.str 0 0), (NV.str 0 0), (NV.str 0 0), (NV.str 0 0), (NV.str 0 0), (NV.str 0 0), (NV.str 0 0), (NV.str 0 0), (NV.str 0 0), (NV.str 0 0), (NV.str 0 0), (NV.str 0 0), (NV.str 0 0), (NV.str 0 0), (NV.str 0 0), (NV.str 0 0), (NV.str 0 0), (NV.str 0 0), (NV.str 0 0), (NV.str 0 0), (NV.str 0 0), (NV.str 0 0), (NV.str 0 0), (NV.str 0 0), (NV.str 0 0), (NV.str 0 0), (NV.str 0 0), (NV.str 0 0), (NV.str 0 0), (NV.str 0 0), (NV.str 0 0), (NV.str 0 0), (NV.str 0 0), (NV.str 0 0), (NV.str 0 0), (NV.str 0 0), (NV.str 0 0), (NV.str 0 0), (NV.str 0 0), (NV.str 0 0), (NV.str 0 0), (NV.str 0 0), (NV.str 0 0), (NV.str 0 0), (NV.str 0 0), (NV.str 0 0), (NV.str 0 0), (NV.str 0 0), (NV.str 0 0), (NV.str 0 0), (NV.str 0 0), (NV.str 0 0), (NV.str 0 0), (NV.str 0 0), (NV.str 0 0), (NV.str 0 0), (NV.str 0 0), (NV.str 0 0), (NV.str 0 0), (NV.str 0 0), (NV.str 0 0), (NV.str 0 0), (NV.str 0 0), (NV.str 0 0), (NV.str 0 0), (NV.str 0 0), (NV.str 0 0), (NV.str 0 0), (NV.str 0 0), (NV.str 0 0), (NV.str 0 0), (NV.str 0 0), (NV.str 0 0), (NV.str 0 0), (NV.str 0 0), (NV.str 0 0), (NV.str 0 0), (NV.str 0 0), (NV.str 0 0), (NV.str 0 0), (NV.str 0 0), (NV.str 0 0), (NV.str 0 0), (NV.str 0 0), (NV.str 0 0), (NV.str 0 0), (NV.str 0 0), (NV.str 0 0), (NV.str 0 0), (NV.str 0 0), (NV.str 0 0), (NV.str 0 0), (NV.str 0 0), (NV.str 0 0), (NV.str 0 0), (NV.str 0 0), (NV.str 0 0), (NV.str 0 0), (NV.str 0 0), (NV.str 0 0), (NV.str 0 0), (NV.str 0 0), (NV.str 0 0), (NV.str 0 0), (NV.str 0 0), (NV.str 0 0), (NV.str 0 0), (NV.str 0 0), (NV.str 0 0), (NV.str 0 0), (NV.str 0 0), (NV.str 0 0), (NV.str 0 0), (NV.str 0 0), (NV.str 0 0), (NV.str 0 0), (NV.str 0 0), (NV.str 0 0), (NV.str 0 0), (NV.str 0 0), (NV.str 0 0), (NV.str 0 0), (NV.str 0 0), (NV.str 0 0), (NV.str 0 0), (NV.str 0 0), (NV.str 0 0), (NV.str 0 0), (NV.str 0 0), (NV.str 0 0), (NV.str 0 0), (NV.str 0 0), (NV.str 0 0), (NV.str 0 0), (NV.str 0 0), (NV.str 0 0), (NV.str 0 0), (NV.str 0 0), (NV.str 0 0), (NV.str 0 0), (NV.str 0 0), (NV.str 0 0), (NV.str 0 0), (NV.str 0 0), (NV.str 0 0), (NV.str 0 0), (NV.str 0 0), (NV.str 0 0), (NV.str 0 0), (NV.str 0 0), (NV.str 0 0), (NV.str 0 0), (NV.str 0 0), (NV.str 0 0), (NV.str 0 0), (NV.str 0 0), (NV.str 0 0), (NV.str 0 0), (NV.str 0 0), (NV.str 0 0), (NV.str 0 0), (NV.str 0 0), (NV.str 0 0), (NV.str 0 0)]) h) fun v3 h4 =>
 mK (stM 211 v3 v2 h4) fun v5 h6 =>
 bK (ixA 211 1 v3 v0) fun v7 =>
 bK (ldO 1 false h6 v7) fun v8 =>
 retC v8 h6)
theorem e70 : ikB Tryz.prog 10 Tryz.f70 = S70 := by kernel_rfl
theorem k70 [Sig] (w0 : World) : SOK cW w0 70 S70 := okW Tryz.func70 (by kernel_rfl) e70
noncomputable def S73 (call : CallF) (N : Nat) (l : List NV) (h : H) : R :=
 uc l fun v0 l1 => un l1 (
 joinC 1 (fun v2 h3 =>
 retC v2 h3) fun J4 =>
 loopC N 4 (fun L10 v5 v6 v7 v8 h9 =>
 bK (lenStr v5) fun v11 =>
 bK (leI v8 v11) fun v12 =>
 condK v12 (
 joinC 4 (fun v13 v14 v15 v16 h17 =>
 bK (addI v16 (NV.int .i64 (.ofNat 1))) fun v19 =>
 L10 v13 v14 v15 v19 h17) fun J18 =>
 bK (lenStr v5) fun v20 =>
 bK (eqI v8 v20) fun v21 =>
 jK (fun v22 h23 =>
 jK (fun v25 h26 =>
 jK (fun v28 h29 =>
 jK (fun v31 h32 =>
 bK (pickO v21 (NV.bool true) v31) fun v34 =>
 condK v34 (
 bK (binO .neq v7 (NV.str 0 0)) fun v35 =>
 joinC 3 (fun v36 v37 v38 h39 =>
 J18 v36 v37 (NV.str 0 0) v38 h39) fun J40 =>
 condK v35 (
 mK (bslM 1 false [(0, 1)] [(NV.str 0 0)] [v7] h32) fun v41 h42 =>
 mK (appM Tryz.prog 9 v6 v41 h42) fun v43 h44 =>
 J40 v5 v43 v8 h44) (
 J40 v5 v6 v8 h32)) (
 bK (addI v8 (NV.int .i64 (.ofNat 1))) fun v45 =>
 bK (slStr v5 (some v8) (some v45)) fun v46 =>
 bK (binO .add v7 v46) fun v47 =>
 J18 v5 v6 v47 v8 h32)) fun J33 => gK v21 false (
 bK (eqI v28 (NV.int .u8 (.ofNat 32))) fun v48 =>
 J33 v48 h29) (J33 (NV.tuple []) h29)) fun J30 => gK v21 false (
 bK (ixStr v22 v25) fun v49 =>
 J30 v49 h26) (J30 (NV.tuple []) h26)) fun J27 => gK v21 false (
 J27 v8 h23) (J27 (NV.tuple []) h23)) fun J24 => gK v21 false (
 J24 v5 h9) (J24 (NV.tuple []) h9)) (
 J4 v6 h9)) v0 NV.nslice (NV.str 0 0) (NV.int .i64 (.ofNat 0)) h)
theorem e73 : ikB Tryz.prog 10 Tryz.f73 = S73 := by kernel_rfl
theorem k73 [Sig] (w0 : World) : SOK cW w0 73 S73 := okW Tryz.func73 (by kernel_rfl) e73
noncomputable def S75 (call : CallF) (N : Nat) (l : List NV) (h : H) : R :=
 uc l fun v0 l1 => un l1 (
 joinC 1 (fun v2 h3 =>
 retC v2 h3) fun J4 =>
 loopC N 3 (fun L9 v5 v6 v7 h8 =>
 bK (lenStr v5) fun v10 =>
 bK (ltI v7 v10) fun v11 =>
 condK v11 (
 bK (binO .mul v6 (NV.int .i64 (.ofNat 10))) fun v12 =>
 bK (ixStr v5 v7) fun v13 =>
 bK (cvI .i64 v13) fun v14 =>
 bK (addI v12 v14) fun v15 =>
 bK (subI v15 (NV.int .i64 (.ofNat 48))) fun v16 =>
 bK (addI v7 (NV.int .i64 (.ofNat 1))) fun v17 =>
 L9 v5 v16 v17 h8) (
 J4 v6 h8)) v0 (NV.int .i64 (.ofNat 0)) (NV.int .i64 (.ofNat 0)) h)
theorem e75 : ikB Tryz.prog 10 Tryz.f75 = S75 := by kernel_rfl
theorem k75 [Sig] (w0 : World) : SOK cW w0 75 S75 := okW Tryz.func75 (by kernel_rfl) e75
noncomputable def S76 (call : CallF) (N : Nat) (l : List NV) (h : H) : R :=
 uc l fun v0 l1 => uc l1 fun v2 l3 => uc l3 fun v4 l5 => un l5 (
 mK (boxM false v0 h) fun v6 h7 =>
 mK (boxM false v2 h7) fun v8 h9 =>
 bK (fAddr 13 v6) fun v10 =>
 bK (ldO 1 false h9 v10) fun v11 =>
 bK (lenSl v11) fun v12 =>
 bK (gtI v12 (NV.int .i64 (.ofNat 0))) fun v13 =>
 bK (fAddr 1 v8) fun v14 =>
 bK (ldO 1 false h9 v14) fun v15 =>
 bK (fAddr 0 v6) fun v16 =>
 bK (fAddr 9 v16) fun v17 =>
 bK (ldO 1 false h9 v17) fun v18 =>
 bK (lenSl v18) fun v19 =>
 bK (ltI v15 v19) fun v20 =>
 bK (fAddr 1 v8) fun v21 =>
 bK (ldO 1 false h9 v21) fun v22 =>
 bK (fAddr 0 v6) fun v23 =>
 bK (fAddr 8 v23) fun v24 =>
 bK (ldO 1 false h9 v24) fun v25 =>
 bK (lenSl v25) fun v26 =>
 bK (ltI v22 v26) fun v27 =>
 bK (fAddr 0 v8) fun v28 =>
 bK (ldO 1 false h9 v28) fun v29 =>
 mK (calM call 124 [v29] h9) fun v30 h31 =>
 joinC 0 (fun h32 =>
 retC (NV.bool true) h32) fun J33 =>
 bK (eqI v4 (NV.int .i64 (.ofNat 4))) fun v34 =>
 condK v34 (
 bK (ldO 16 true h31 v6) fun v35 =>
 bK (fAddr 1 v8) fun v36 =>
 bK (ldO 1 false h31 v36) fun v37 =>
 mK (calM call 125 [v35, v37] h31) fun v38 h39 =>
 jK (fun v40 h41 =>
 jK (fun v43 h44 =>
 jK (fun v46 h47 =>
 jK (fun v49 h50 =>
 jK (fun v52 h53 =>
 jK (fun v55 h56 =>
 bK (pickO v38 v55 (NV.bool false)) fun v58 =>
 retC v58 h56) fun J57 => gK v38 true (
 bK (ltI v43 v52) fun v59 =>
 J57 v59 h53) (J57 (NV.tuple []) h53)) fun J54 => gK v38 true (
 bK (lenSl v49) fun v60 =>
 J54 v60 h50) (J54 (NV.tuple []) h50)) fun J51 => gK v38 true (
 bK (ldO 1 false h47 v46) fun v61 =>
 J51 v61 h47) (J51 (NV.tuple []) h47)) fun J48 => gK v38 true (
 bK (fAddr 11 v6) fun v62 =>
 J48 v62 h44) (J48 (NV.tuple []) h44)) fun J45 => gK v38 true (
 bK (ldO 1 false h41 v40) fun v63 =>
 J45 v63 h41) (J45 (NV.tuple []) h41)) fun J42 => gK v38 true (
 bK (fAddr 1 v8) fun v64 =>
 J42 v64 h39) (J42 (NV.tuple []) h39)) (
 bK (eqI v4 (NV.int .i64 (.ofNat 10))) fun v65 =>
 joinC 9 (fun v66 v67 v68 v69 v70 v71 v72 v73 v74 h75 =>
 condK v74 (
 bK (fAddr 1 v68) fun v77 =>
 bK (ldO 1 false h75 (chkV h75 v77)) fun v78 =>
 bK (gtI v78 (NV.int .i64 (.ofNat 4))) fun v79 =>
 jK (fun v80 h81 =>
 jK (fun v83 h84 =>
 jK (fun v86 h87 =>
 jK (fun v89 h90 =>
 jK (fun v92 h93 =>
 jK (fun v95 h96 =>
 jK (fun v98 h99 =>
 nextK h75 h99 (
 jK (fun v101 h102 =>
 bK (pickO v79 (NV.bool true) v101) fun v104 =>
 jK (fun v105 h106 =>
 jK (fun v108 h109 =>
 jK (fun v111 h112 =>
 jK (fun v114 h115 =>
 jK (fun v117 h118 =>
 jK (fun v120 h121 =>
 jK (fun v123 h124 =>
 jK (fun v126 h127 =>
 jK (fun v129 h130 =>
 jK (fun v132 h133 =>
 bK (pickO v104 (NV.bool true) v132) fun v135 =>
 none /- guarded read checked again -/) fun J134 => gK v104 false (
 bK (pickO v111 v129 (NV.bool false)) fun v136 =>
 J134 v136 h99) (J134 (NV.tuple []) h99)) fun J131 => gK v111 true (
 bK (geI v123 v126) fun v137 =>
 J131 v137 h99) (J131 (NV.tuple []) h99)) fun J128 => gK v111 true (
 J128 v72 h99) (J128 (NV.tuple []) h99)) fun J125 => gK v111 true (
 bK (ldO 1 false h99 (chkV h99 v120)) fun v138 =>
 J125 v138 h99) (J125 (NV.tuple []) h99)) fun J122 => gK v111 true (
 bK (ixS 1 v117 (NV.int .i64 (.ofNat 0))) fun v139 =>
 J122 v139 h99) (J122 (NV.tuple []) h99)) fun J119 => gK v111 true (
 bK (ldO 1 false h99 (chkV h99 v114)) fun v140 =>
 J119 v140 h99) (J119 (NV.tuple []) h99)) fun J116 => gK v111 true (
 bK (fAddr 5 v68) fun v141 =>
 J116 v141 h99) (J116 (NV.tuple []) h99)) fun J113 => gK v104 false (
 J113 v108 h99) (J113 (NV.tuple []) h99)) fun J110 => gK v104 false (
 bK (eqI v105 (NV.int .i64 (.ofNat 26))) fun v142 =>
 J110 v142 h99) (J110 (NV.tuple []) h99)) fun J107 => gK v104 false (
 J107 v66 h99) (J107 (NV.tuple []) h99)) fun J103 => gK v79 false (
 bK (gtI v89 v98) fun v143 =>
 J103 v143 h99) (J103 (NV.tuple []) h99))) fun J100 => gK v79 false (
 mK (calM call 126 [(chkV h75 v95)] h75) fun v144 h145 =>
 J100 v144 h145) (J100 (NV.tuple []) h75)) fun J97 => gK v79 false (
 bK (ldO 1 false h75 (chkV h75 v92)) fun v146 =>
 J97 v146 h75) (J97 (NV.tuple []) h75)) fun J94 => gK v79 false (
 bK (fAddr 0 v68) fun v147 =>
 J94 v147 h75) (J94 (NV.tuple []) h75)) fun J91 => gK v79 false (
 bK (binO .shl (NV.int .i64 (.ofNat 1)) v86) fun v148 =>
 J91 v148 h75) (J91 (NV.tuple []) h75)) fun J88 => gK v79 false (
 bK (cvI .u64 v83) fun v149 =>
 J88 v149 h75) (J88 (NV.tuple []) h75)) fun J85 => gK v79 false (
 bK (ldO 1 false h75 (chkV h75 v80)) fun v150 =>
 J85 v150 h75) (J85 (NV.tuple []) h75)) fun J82 => gK v79 false (
 bK (fAddr 1 v68) fun v151 =>
 J82 v151 h75) (J82 (NV.tuple []) h75)) (
 bK (eqI v73 (NV.int .i64 (.ofNat 11))) fun v152 =>
 joinC 8 (fun v153 v154 v155 v156 v157 v158 v159 v160 h161 =>
 condK v160 (
 retC v155 h161) (
 bK (eqI v159 (NV.int .i64 (.ofNat 25))) fun v163 =>
 condK v163 (
 bK (fAddr 1 v154) fun v164 =>
 bK (ldO 1 false h161 v164) fun v165 =>
 bK (ltI v165 v158) fun v166 =>
 retC v166 h161) (
 bK (eqI v159 (NV.int .i64 (.ofNat 24))) fun v167 =>
 condK v167 (
 joinC 0 (fun h168 =>
 retC (NV.bool true) h168) fun J169 =>
 loopC N 3 (fun L174 v170 v171 v172 h173 =>
 bK (fAddr 5 v170) fun v175 =>
 bK (ldO 1 false h173 v175) fun v176 =>
 bK (lenSl v176) fun v177 =>
 bK (ltI v172 v177) fun v178 =>
 condK v178 (
 bK (fAddr 5 v170) fun v179 =>
 bK (ldO 1 false h173 v179) fun v180 =>
 bK (ixS 1 v180 v172) fun v181 =>
 bK (ldO 1 false h173 v181) fun v182 =>
 bK (geI v182 v171) fun v183 =>
 condK v183 (
 retC (NV.bool false) h173) (
 bK (addI v172 (NV.int .i64 (.ofNat 1))) fun v184 =>
 L174 v170 v171 v184 h173)) (
 J169 h173)) v154 v158 (NV.int .i64 (.ofNat 0)) h161) (
 bK (eqI v159 (NV.int .i64 (.ofNat 17))) fun v185 =>
 condK v185 (
 jK (fun v186 h187 =>
 bK (pickO v155 v186 (NV.bool false)) fun v189 =>
 retC v189 h187) fun J188 => gK v155 true (
 J188 v156 h161) (J188 (NV.tuple []) h161)) (
 bK (eqI v159 (NV.int .i64 (.ofNat 18))) fun v190 =>
 condK v190 (
 retC v156 h161) (
 bK (eqI v159 (NV.int .i64 (.ofNat 21))) fun v191 =>
 condK v191 (
 retC v157 h161) (
 bK (eqI v159 (NV.int .i64 (.ofNat 20))) fun v192 =>
 condK v192 (
 jK (fun v193 h194 =>
 jK (fun v196 h197 =>
 jK (fun v199 h200 =>
 jK (fun v202 h203 =>
 jK (fun v205 h206 =>
 jK (fun v208 h209 =>
 bK (pickO v157 v208 (NV.bool false)) fun v211 =>
 jK (fun v212 h213 =>
 jK (fun v215 h216 =>
 jK (fun v218 h219 =>
 jK (fun v221 h222 =>
 jK (fun v224 h225 =>
 jK (fun v227 h228 =>
 jK (fun v230 h231 =>
 jK (fun v233 h234 =>
 jK (fun v236 h237 =>
 jK (fun v239 h240 =>
 jK (fun v242 h243 =>
 jK (fun v245 h246 =>
 jK (fun v248 h249 =>
 jK (fun v251 h252 =>
 jK (fun v254 h255 =>
 jK (fun v257 h258 =>
 bK (pickO v211 v257 (NV.bool false)) fun v260 =>
 retC v260 h161) fun J259 => gK v211 true (
 bK (eqI v233 v254) fun v261 =>
 J259 v261 h161) (J259 (NV.tuple []) h161)) fun J256 => gK v211 true (
 bK (ldO 1 false h161 (chkV h161 v251)) fun v262 =>
 J256 v262 h161) (J256 (NV.tuple []) h161)) fun J253 => gK v211 true (
 bK (fAddr 0 v248) fun v263 =>
 J253 v263 h161) (J253 (NV.tuple []) h161)) fun J250 => gK v211 true (
 bK (ixS 4 v239 v245) fun v264 =>
 J250 v264 h161) (J250 (NV.tuple []) h161)) fun J247 => gK v211 true (
 bK (ldO 1 false h161 (chkV h161 v242)) fun v265 =>
 J247 v265 h161) (J247 (NV.tuple []) h161)) fun J244 => gK v211 true (
 bK (fAddr 2 v154) fun v266 =>
 J244 v266 h161) (J244 (NV.tuple []) h161)) fun J241 => gK v211 true (
 bK (ldO 1 false h161 (chkV h161 v236)) fun v267 =>
 J241 v267 h161) (J241 (NV.tuple []) h161)) fun J238 => gK v211 true (
 bK (fAddr 12 v153) fun v268 =>
 J238 v268 h161) (J238 (NV.tuple []) h161)) fun J235 => gK v211 true (
 bK (ldO 1 false h161 (chkV h161 v230)) fun v269 =>
 J235 v269 h161) (J235 (NV.tuple []) h161)) fun J232 => gK v211 true (
 bK (fAddr 0 v227) fun v270 =>
 J232 v270 h161) (J232 (NV.tuple []) h161)) fun J229 => gK v211 true (
 bK (ixS 5 v218 v224) fun v271 =>
 J229 v271 h161) (J229 (NV.tuple []) h161)) fun J226 => gK v211 true (
 bK (ldO 1 false h161 (chkV h161 v221)) fun v272 =>
 J226 v272 h161) (J226 (NV.tuple []) h161)) fun J223 => gK v211 true (
 bK (fAddr 1 v154) fun v273 =>
 J223 v273 h161) (J223 (NV.tuple []) h161)) fun J220 => gK v211 true (
 bK (ldO 1 false h161 (chkV h161 v215)) fun v274 =>
 J220 v274 h161) (J220 (NV.tuple []) h161)) fun J217 => gK v211 true (
 bK (fAddr 8 v212) fun v275 =>
 J217 v275 h161) (J217 (NV.tuple []) h161)) fun J214 => gK v211 true (
 bK (fAddr 0 v153) fun v276 =>
 J214 v276 h161) (J214 (NV.tuple []) h161)) fun J210 => gK v157 true (
 bK (ltI v196 v205) fun v277 =>
 J210 v277 h161) (J210 (NV.tuple []) h161)) fun J207 => gK v157 true (
 bK (lenSl v202) fun v278 =>
 J207 v278 h161) (J207 (NV.tuple []) h161)) fun J204 => gK v157 true (
 bK (ldO 1 false h161 (chkV h161 v199)) fun v279 =>
 J204 v279 h161) (J204 (NV.tuple []) h161)) fun J201 => gK v157 true (
 bK (fAddr 12 v153) fun v280 =>
 J201 v280 h161) (J201 (NV.tuple []) h161)) fun J198 => gK v157 true (
 bK (ldO 1 false h161 (chkV h161 v193)) fun v281 =>
 J198 v281 h161) (J198 (NV.tuple []) h161)) fun J195 => gK v157 true (
 bK (fAddr 2 v154) fun v282 =>
 J195 v282 h161) (J195 (NV.tuple []) h161)) (
 bK (eqI v159 (NV.int .i64 (.ofNat 22))) fun v283 =>
 condK v283 (
 bK (fAddr 1 v154) fun v284 =>
 bK (ldO 1 false h161 (chkV h161 v284)) fun v285 =>
 bK (fAddr 12 v153) fun v286 =>
 bK (ldO 1 false h161 (chkV h161 v286)) fun v287 =>
 bK (lenSl v287) fun v288 =>
 bK (ltI v285 v288) fun v289 =>
 jK (fun v290 h291 =>
 jK (fun v293 h294 =>
 jK (fun v296 h297 =>
 jK (fun v299 h300 =>
 jK (fun v302 h303 =>
 jK (fun v305 h306 =>
 bK (pickO v289 v305 (NV.bool false)) fun v308 =>
 jK (fun v309 h310 =>
 jK (fun v312 h313 =>
 jK (fun v315 h316 =>
 jK (fun v318 h319 =>
 jK (fun v321 h322 =>
 jK (fun v324 h325 =>
 jK (fun v327 h328 =>
 jK (fun v330 h331 =>
 jK (fun v333 h334 =>
 jK (fun v336 h337 =>
 jK (fun v339 h340 =>
 jK (fun v342 h343 =>
 jK (fun v345 h346 =>
 jK (fun v348 h349 =>
 jK (fun v351 h352 =>
 bK (pickO v308 v351 (NV.bool false)) fun v354 =>
 retC v354 h161) fun J353 => gK v308 true (
 bK (eqI v327 v348) fun v355 =>
 J353 v355 h161) (J353 (NV.tuple []) h161)) fun J350 => gK v308 true (
 bK (ldO 1 false h161 (chkV h161 v345)) fun v356 =>
 J350 v356 h161) (J350 (NV.tuple []) h161)) fun J347 => gK v308 true (
 bK (fAddr 0 v342) fun v357 =>
 J347 v357 h161) (J347 (NV.tuple []) h161)) fun J344 => gK v308 true (
 bK (ixS 4 v333 v339) fun v358 =>
 J344 v358 h161) (J344 (NV.tuple []) h161)) fun J341 => gK v308 true (
 bK (ldO 1 false h161 (chkV h161 v336)) fun v359 =>
 J341 v359 h161) (J341 (NV.tuple []) h161)) fun J338 => gK v308 true (
 bK (fAddr 2 v154) fun v360 =>
 J338 v360 h161) (J338 (NV.tuple []) h161)) fun J335 => gK v308 true (
 bK (ldO 1 false h161 (chkV h161 v330)) fun v361 =>
 J335 v361 h161) (J335 (NV.tuple []) h161)) fun J332 => gK v308 true (
 bK (fAddr 12 v153) fun v362 =>
 J332 v362 h161) (J332 (NV.tuple []) h161)) fun J329 => gK v308 true (
 bK (ldO 1 false h161 (chkV h161 v324)) fun v363 =>
 J329 v363 h161) (J329 (NV.tuple []) h161)) fun J326 => gK v308 true (
 bK (fAddr 0 v321) fun v364 =>
 J326 v364 h161) (J326 (NV.tuple []) h161)) fun J323 => gK v308 true (
 bK (ixS 4 v312 v318) fun v365 =>
 J323 v365 h161) (J323 (NV.tuple []) h161)) fun J320 => gK v308 true (
 bK (ldO 1 false h161 (chkV h161 v315)) fun v366 =>
 J320 v366 h161) (J320 (NV.tuple []) h161)) fun J317 => gK v308 true (
 bK (fAddr 1 v154) fun v367 =>
 J317 v367 h161) (J317 (NV.tuple []) h161)) fun J314 => gK v308 true (
 bK (ldO 1 false h161 (chkV h161 v309)) fun v368 =>
 J314 v368 h161) (J314 (NV.tuple []) h161)) fun J311 => gK v308 true (
 bK (fAddr 12 v153) fun v369 =>
 J311 v369 h161) (J311 (NV.tuple []) h161)) fun J307 => gK v289 true (
 bK (ltI v293 v302) fun v370 =>
 J307 v370 h161) (J307 (NV.tuple []) h161)) fun J304 => gK v289 true (
 bK (lenSl v299) fun v371 =>
 J304 v371 h161) (J304 (NV.tuple []) h161)) fun J301 => gK v289 true (
 bK (ldO 1 false h161 (chkV h161 v296)) fun v372 =>
 J301 v372 h161) (J301 (NV.tuple []) h161)) fun J298 => gK v289 true (
 bK (fAddr 12 v153) fun v373 =>
 J298 v373 h161) (J298 (NV.tuple []) h161)) fun J295 => gK v289 true (
 bK (ldO 1 false h161 (chkV h161 v290)) fun v374 =>
 J295 v374 h161) (J295 (NV.tuple []) h161)) fun J292 => gK v289 true (
 bK (fAddr 2 v154) fun v375 =>
 J292 v375 h161) (J292 (NV.tuple []) h161)) (
 bK (eqI v159 (NV.int .i64 (.ofNat 9))) fun v376 =>
 condK v376 (
 bK (fAddr 1 v154) fun v377 =>
 bK (ldO 1 false h161 v377) fun v378 =>
 bK (fAddr 12 v153) fun v379 =>
 bK (ldO 1 false h161 v379) fun v380 =>
 bK (lenSl v380) fun v381 =>
 bK (ltI v378 v381) fun v382 =>
 retC v382 h161) (
 J33 h161)))))))))) fun J162 =>
 condK v152 (
 J162 v67 v68 v69 v70 v71 v72 v73 v152 h75) (
 bK (eqI v73 (NV.int .i64 (.ofNat 19))) fun v383 =>
 J162 v67 v68 v69 v70 v71 v72 v73 v383 h75))) fun J76 =>
 condK v65 (
 J76 v4 v6 v8 v13 v20 v27 v30 v4 v65 h31) (
 bK (eqI v4 (NV.int .i64 (.ofNat 26))) fun v384 =>
 J76 v4 v6 v8 v13 v20 v27 v30 v4 v384 h31)))
theorem e76 : ikB Tryz.prog 10 Tryz.f76 = S76 := by kernel_rfl
theorem k76 [Sig] (w0 : World) : SOK cW w0 76 S76 := okW Tryz.func76 (by kernel_rfl) e76
noncomputable def S78 (call : CallF) (N : Nat) (l : List NV) (h : H) : R :=
 uc l fun v0 l1 => uc l1 fun v2 l3 => un l3 (
 mK (boxM false v0 h) fun v4 h5 =>
 mK (alM (NB.cells [NV.nslice, (NV.bool false), (NV.bool false)]) h5) fun v6 h7 =>
 bK (fAddr 0 v4) fun v8 =>
 bK (ldO 1 false h7 v8) fun v9 =>
 mK (appM Tryz.prog 3 NV.nslice v9 h7) fun v10 h11 =>
 mK (appM Tryz.prog 3 v10 v2 h11) fun v12 h13 =>
 bK (fAddr 0 v4) fun v14 =>
 mK (stM 1 v14 v12 h13) fun v15 h16 =>
 bK (ldO 3 true h16 v4) fun v17 =>
 mK (stM 3 v6 v17 h16) fun v18 h19 =>
 bK (ldB 3 true h19 v6) fun v20 =>
 retC v20 h19)
theorem e78 : ikB Tryz.prog 10 Tryz.f78 = S78 := by kernel_rfl
theorem k78 [Sig] (w0 : World) : SOK cW w0 78 S78 := okW Tryz.func78 (by kernel_rfl) e78
noncomputable def S81 (call : CallF) (N : Nat) (l : List NV) (h : H) : R :=
 uc l fun v0 l1 => un l1 (
 mK (boxM false v0 h) fun v2 h3 =>
 mK (alM (NB.cells [NV.nslice, (NV.bool false), (NV.bool false)]) h3) fun v4 h5 =>
 bK (fAddr 0 v2) fun v6 =>
 bK (ldO 1 false h5 v6) fun v7 =>
 bK (lenSl v7) fun v8 =>
 bK (eqI v8 (NV.int .i64 (.ofNat 0))) fun v9 =>
 condK v9 (
 bK (fAddr 2 v2) fun v10 =>
 bK (ldO 1 false h5 v10) fun v11 =>
 jK (fun v12 h13 =>
 jK (fun v15 h16 =>
 jK (fun v18 h19 =>
 bK (pickO v11 (NV.bool true) v18) fun v21 =>
 bK (fAddr 2 v2) fun v22 =>
 mK (stM 1 v22 v21 h19) fun v23 h24 =>
 bK (ldO 3 true h24 v2) fun v25 =>
 mK (stM 3 v4 v25 h24) fun v26 h27 =>
 bK (ldB 3 true h27 v4) fun v28 =>
 retC (NV.tuple [v28, (NV.int .i64 (.ofNat 0))]) h27) fun J20 => gK v11 false (
 bK (notO v15) fun v29 =>
 J20 v29 h16) (J20 (NV.tuple []) h16)) fun J17 => gK v11 false (
 bK (ldO 1 false h13 v12) fun v30 =>
 J17 v30 h13) (J17 (NV.tuple []) h13)) fun J14 => gK v11 false (
 bK (fAddr 1 v2) fun v31 =>
 J14 v31 h5) (J14 (NV.tuple []) h5)) (
 bK (fAddr 0 v2) fun v32 =>
 bK (ldO 1 false h5 v32) fun v33 =>
 bK (fAddr 0 v2) fun v34 =>
 bK (ldO 1 false h5 v34) fun v35 =>
 bK (lenSl v35) fun v36 =>
 bK (subI v36 (NV.int .i64 (.ofNat 1))) fun v37 =>
 bK (ixS 1 v33 v37) fun v38 =>
 bK (ldO 1 false h5 v38) fun v39 =>
 bK (fAddr 0 v2) fun v40 =>
 bK (ldO 1 false h5 v40) fun v41 =>
 bK (fAddr 0 v2) fun v42 =>
 bK (ldO 1 false h5 v42) fun v43 =>
 bK (lenSl v43) fun v44 =>
 bK (subI v44 (NV.int .i64 (.ofNat 1))) fun v45 =>
 bK (slcO Tryz.prog 25 h5 v41 none (some v45) none) fun v46 =>
 bK (fAddr 0 v2) fun v47 =>
 mK (stM 1 v47 v46 h5) fun v48 h49 =>
 bK (ldO 3 true h49 v2) fun v50 =>
 mK (stM 3 v4 v50 h49) fun v51 h52 =>
 bK (ldB 3 true h52 v4) fun v53 =>
 retC (NV.tuple [v53, v39]) h52))
theorem e81 : ikB Tryz.prog 10 Tryz.f81 = S81 := by kernel_rfl
theorem k81 [Sig] (w0 : World) : SOK cW w0 81 S81 := okW Tryz.func81 (by kernel_rfl) e81
noncomputable def S84 (call : CallF) (N : Nat) (l : List NV) (h : H) : R :=
 uc l fun v0 l1 => un l1 (
 mK (boxM false v0 h) fun v2 h3 =>
 mK (alM (NB.cells [NV.nilFunc]) h3) fun v4 h5 =>
 mK (stM 1 v4 (NV.func (.func 137) [] []) h5) fun v6 h7 =>
 bK (fAddr 0 v2) fun v8 =>
 bK (ldO 1 false h7 v8) fun v9 =>
 mK (calM call 142 [v9, (NV.func (.func 128) [] [])] h7) fun v10 h11 =>
 jK (fun v12 h13 =>
 jK (fun v15 h16 =>
 jK (fun v18 h19 =>
 bK (pickO v10 v18 (NV.bool false)) fun v21 =>
 jK (fun v22 h23 =>
 jK (fun v25 h26 =>
 jK (fun v28 h29 =>
 jK (fun v31 h32 =>
 bK (pickO v21 v31 (NV.bool false)) fun v34 =>
 jK (fun v35 h36 =>
 jK (fun v38 h39 =>
 jK (fun v41 h42 =>
 bK (pickO v34 v41 (NV.bool false)) fun v44 =>
 jK (fun v45 h46 =>
 jK (fun v48 h49 =>
 jK (fun v51 h52 =>
 bK (pickO v44 v51 (NV.bool false)) fun v54 =>
 jK (fun v55 h56 =>
 jK (fun v58 h59 =>
 jK (fun v61 h62 =>
 jK (fun v64 h65 =>
 bK (pickO v54 v64 (NV.bool false)) fun v67 =>
 jK (fun v68 h69 =>
 jK (fun v71 h72 =>
 jK (fun v74 h75 =>
 jK (fun v77 h78 =>
 bK (pickO v67 v77 (NV.bool false)) fun v80 =>
 jK (fun v81 h82 =>
 jK (fun v84 h85 =>
 jK (fun v87 h88 =>
 bK (pickO v80 v87 (NV.bool false)) fun v90 =>
 jK (fun v91 h92 =>
 jK (fun v94 h95 =>
 jK (fun v97 h98 =>
 bK (pickO v90 v97 (NV.bool false)) fun v100 =>
 jK (fun v101 h102 =>
 jK (fun v104 h105 =>
 jK (fun v107 h108 =>
 jK (fun v110 h111 =>
 bK (pickO v100 v110 (NV.bool false)) fun v113 =>
 jK (fun v114 h115 =>
 jK (fun v117 h118 =>
 jK (fun v120 h121 =>
 jK (fun v123 h124 =>
 bK (pickO v113 v123 (NV.bool false)) fun v126 =>
 jK (fun v127 h128 =>
 jK (fun v130 h131 =>
 jK (fun v133 h134 =>
 jK (fun v136 h137 =>
 jK (fun v139 h140 =>
 jK (fun v142 h143 =>
 jK (fun v145 h146 =>
 bK (pickO v126 v145 (NV.bool false)) fun v148 =>
 retC v148 h146) fun J147 => gK v126 true (
 bK (pickO v133 (NV.bool true) v142) fun v149 =>
 J147 v149 h143) (J147 (NV.tuple []) h143)) fun J144 => gK v133 false (
 bK (notO v139) fun v150 =>
 J144 v150 h140) (J144 (NV.tuple []) h140)) fun J141 => gK v133 false (
 mK (calM call 154 [v136] h137) fun v151 h152 =>
 J141 v151 h152) (J141 (NV.tuple []) h137)) fun J138 => gK v133 false (
 bK (ldO 11 true h134 v2) fun v153 =>
 J138 v153 h134) (J138 (NV.tuple []) h134)) fun J135 => gK v126 true (
 J135 v130 h131) (J135 (NV.tuple []) h131)) fun J132 => gK v126 true (
 bK (ldO 1 false h128 v127) fun v154 =>
 J132 v154 h128) (J132 (NV.tuple []) h128)) fun J129 => gK v126 true (
 bK (fAddr 10 v2) fun v155 =>
 J129 v155 h124) (J129 (NV.tuple []) h124)) fun J125 => gK v113 true (
 mK (calM call 153 [v117, v120] h121) fun v156 h157 =>
 J125 v156 h157) (J125 (NV.tuple []) h121)) fun J122 => gK v113 true (
 J122 (NV.func (.func 141) [] [v4]) h118) (J122 (NV.tuple []) h118)) fun J119 => gK v113 true (
 bK (ldO 1 false h115 v114) fun v158 =>
 J119 v158 h115) (J119 (NV.tuple []) h115)) fun J116 => gK v113 true (
 bK (fAddr 9 v2) fun v159 =>
 J116 v159 h111) (J116 (NV.tuple []) h111)) fun J112 => gK v100 true (
 mK (calM call 152 [v104, v107] h108) fun v160 h161 =>
 J112 v160 h161) (J112 (NV.tuple []) h108)) fun J109 => gK v100 true (
 J109 (NV.func (.func 138) [] [v4]) h105) (J109 (NV.tuple []) h105)) fun J106 => gK v100 true (
 bK (ldO 1 false h102 v101) fun v162 =>
 J106 v162 h102) (J106 (NV.tuple []) h102)) fun J103 => gK v100 true (
 bK (fAddr 8 v2) fun v163 =>
 J103 v163 h98) (J103 (NV.tuple []) h98)) fun J99 => gK v90 true (
 bK (leI v94 (NV.int .i64 (.ofNat 4294967296))) fun v164 =>
 J99 v164 h95) (J99 (NV.tuple []) h95)) fun J96 => gK v90 true (
 bK (ldO 1 false h92 v91) fun v165 =>
 J96 v165 h92) (J96 (NV.tuple []) h92)) fun J93 => gK v90 true (
 bK (fAddr 7 v2) fun v166 =>
 J93 v166 h88) (J93 (NV.tuple []) h88)) fun J89 => gK v80 true (
 bK (geI v84 (NV.int .i64 (.ofNat 0))) fun v167 =>
 J89 v167 h85) (J89 (NV.tuple []) h85)) fun J86 => gK v80 true (
 bK (ldO 1 false h82 v81) fun v168 =>
 J86 v168 h82) (J86 (NV.tuple []) h82)) fun J83 => gK v80 true (
 bK (fAddr 7 v2) fun v169 =>
 J83 v169 h78) (J83 (NV.tuple []) h78)) fun J79 => gK v67 true (
 mK (calM call 151 [v71, v74] h75) fun v170 h171 =>
 J79 v170 h171) (J79 (NV.tuple []) h75)) fun J76 => gK v67 true (
 J76 (NV.func (.func 135) [] []) h72) (J76 (NV.tuple []) h72)) fun J73 => gK v67 true (
 bK (ldO 1 false h69 v68) fun v172 =>
 J73 v172 h69) (J73 (NV.tuple []) h69)) fun J70 => gK v67 true (
 bK (fAddr 6 v2) fun v173 =>
 J70 v173 h65) (J70 (NV.tuple []) h65)) fun J66 => gK v54 true (
 mK (calM call 150 [v58, v61] h62) fun v174 h175 =>
 J66 v174 h175) (J66 (NV.tuple []) h62)) fun J63 => gK v54 true (
 J63 (NV.func (.func 134) [] []) h59) (J63 (NV.tuple []) h59)) fun J60 => gK v54 true (
 bK (ldO 1 false h56 v55) fun v176 =>
 J60 v176 h56) (J60 (NV.tuple []) h56)) fun J57 => gK v54 true (
 bK (fAddr 5 v2) fun v177 =>
 J57 v177 h52) (J57 (NV.tuple []) h52)) fun J53 => gK v44 true (
 mK (calM call 148 [v48, (NV.func (.func 149) [] [])] h49) fun v178 h179 =>
 J53 v178 h179) (J53 (NV.tuple []) h49)) fun J50 => gK v44 true (
 bK (ldO 1 false h46 v45) fun v180 =>
 J50 v180 h46) (J50 (NV.tuple []) h46)) fun J47 => gK v44 true (
 bK (fAddr 4 v2) fun v181 =>
 J47 v181 h42) (J47 (NV.tuple []) h42)) fun J43 => gK v34 true (
 mK (calM call 146 [v38, (NV.func (.func 147) [] [])] h39) fun v182 h183 =>
 J43 v182 h183) (J43 (NV.tuple []) h39)) fun J40 => gK v34 true (
 bK (ldO 1 false h36 v35) fun v184 =>
 J40 v184 h36) (J40 (NV.tuple []) h36)) fun J37 => gK v34 true (
 bK (fAddr 3 v2) fun v185 =>
 J37 v185 h32) (J37 (NV.tuple []) h32)) fun J33 => gK v21 true (
 mK (calM call 145 [v25, v28] h29) fun v186 h187 =>
 J33 v186 h187) (J33 (NV.tuple []) h29)) fun J30 => gK v21 true (
 J30 (NV.func (.func 131) [] []) h26) (J30 (NV.tuple []) h26)) fun J27 => gK v21 true (
 bK (ldO 1 false h23 v22) fun v188 =>
 J27 v188 h23) (J27 (NV.tuple []) h23)) fun J24 => gK v21 true (
 bK (fAddr 2 v2) fun v189 =>
 J24 v189 h19) (J24 (NV.tuple []) h19)) fun J20 => gK v10 true (
 mK (calM call 143 [v15, (NV.func (.func 144) [] [])] h16) fun v190 h191 =>
 J20 v190 h191) (J20 (NV.tuple []) h16)) fun J17 => gK v10 true (
 bK (ldO 1 false h13 v12) fun v192 =>
 J17 v192 h13) (J17 (NV.tuple []) h13)) fun J14 => gK v10 true (
 bK (fAddr 1 v2) fun v193 =>
 J14 v193 h11) (J14 (NV.tuple []) h11))
theorem e84 : ikB Tryz.prog 10 Tryz.f84 = S84 := by kernel_rfl
theorem k84 [Sig] (w0 : World) : SOK cW w0 84 S84 := okW Tryz.func84 (by kernel_rfl) e84
noncomputable def S85 (call : CallF) (N : Nat) (l : List NV) (h : H) : R :=
 uc l fun v0 l1 => un l1 (
 mK (boxM false v0 h) fun v2 h3 =>
 bK (ldO 11 true h3 v2) fun v4 =>
 mK (mapM none h3) fun v5 h6 =>
 bK (bldO [(0, 11), (16, 1)] [NV.nslice, NV.nslice, NV.nslice, NV.nslice, NV.nslice, NV.nslice, NV.nslice, (NV.int .i64 (.ofNat 0)), NV.nslice, NV.nslice, (NV.bool false), NV.nslice, NV.nslice, NV.nslice, NV.nslice, (NV.int .i64 (.ofNat 0)), NV.nmap] [v4, v5]) fun v7 =>
 mK (boxM false v7 h6) fun v8 h9 =>
 bK (fAddr 1 v2) fun v10 =>
 bK (ldO 1 false h9 v10) fun v11 =>
 bK (lenSl v11) fun v12 =>
 joinC 2 (fun v13 v14 h15 =>
 bK (nilO v14) fun v17 =>
 bK (fAddr 14 v17) fun v18 =>
 bK (ldO 1 false h15 v18) fun v19 =>
 bK (lenSl v19) fun v20 =>
 bK (nilO v14) fun v21 =>
 bK (fAddr 15 v21) fun v22 =>
 mK (stM 1 v22 v20 h15) fun v23 h24 =>
 bK (fAddr 2 v13) fun v25 =>
 bK (ldO 1 false h24 v25) fun v26 =>
 bK (lenSl v26) fun v27 =>
 joinC 2 (fun v28 v29 h30 =>
 bK (nilO v29) fun v32 =>
 bK (fAddr 12 v32) fun v33 =>
 bK (ldO 1 false h30 (chkV h30 v33)) fun v34 =>
 bK (fAddr 3 v28) fun v35 =>
 bK (ldO 1 false h30 (chkV h30 v35)) fun v36 =>
 mK (appM Tryz.prog 63 (chkV h30 v34) (chkV h30 v36) h30) fun v37 h38 =>
 nextK h30 h38 (
 bK (nilO v29) fun v39 =>
 bK (fAddr 12 v39) fun v40 =>
 mK (stM 1 (chkV h38 v40) (chkV h38 v37) h38) fun v41 h42 =>
 nextK h38 h42 (
 bK (nilO v29) fun v43 =>
 bK (fAddr 13 v43) fun v44 =>
 bK (ldO 1 false h42 (chkV h42 v44)) fun v45 =>
 bK (fAddr 4 v28) fun v46 =>
 bK (ldO 1 false h42 (chkV h42 v46)) fun v47 =>
 mK (appM Tryz.prog 61 (chkV h42 v45) (chkV h42 v47) h42) fun v48 h49 =>
 nextK h42 h49 (
 bK (nilO v29) fun v50 =>
 bK (fAddr 13 v50) fun v51 =>
 mK (stM 1 (chkV h49 v51) (chkV h49 v48) h49) fun v52 h53 =>
 nextK h49 h53 (
 bK (fAddr 5 v28) fun v54 =>
 bK (ldO 1 false h53 v54) fun v55 =>
 bK (lenSl v55) fun v56 =>
 joinC 2 (fun v57 v58 h59 =>
 bK (fAddr 8 v57) fun v61 =>
 bK (ldO 1 false h59 v61) fun v62 =>
 bK (lenSl v62) fun v63 =>
 joinC 2 (fun v64 v65 h66 =>
 bK (fAddr 6 v64) fun v68 =>
 bK (ldO 1 false h66 v68) fun v69 =>
 bK (lenSl v69) fun v70 =>
 joinC 1 (fun v71 h72 =>
 retC v71 h72) fun J73 =>
 loopC N 4 (fun L79 v74 v75 v76 v77 h78 =>
 bK (ltI v77 v76) fun v80 =>
 condK v80 (
 bK (ixS 3 v75 v77) fun v81 =>
 bK (ldO 3 true h78 v81) fun v82 =>
 mK (alM (NB.cells [(NV.str 0 0), (NV.int .i64 (.ofNat 0)), (NV.int .i64 (.ofNat 0))]) h78) fun v83 h84 =>
 mK (stM 3 v83 v82 h84) fun v85 h86 =>
 bK (fAddr 1 v83) fun v87 =>
 bK (ldO 1 false h86 v87) fun v88 =>
 bK (eqI v88 (NV.int .i64 (.ofNat 0))) fun v89 =>
 joinC 4 (fun v90 v91 v92 v93 h94 =>
 bK (addI v93 (NV.int .i64 (.ofNat 1))) fun v96 =>
 L79 v90 v91 v92 v96 h94) fun J95 =>
 condK v89 (
 bK (nilO v74) fun v97 =>
 bK (fAddr 16 v97) fun v98 =>
 bK (ldO 1 false h86 (chkV h86 v98)) fun v99 =>
 bK (fAddr 2 v83) fun v100 =>
 bK (ldO 1 false h86 (chkV h86 v100)) fun v101 =>
 mK (updM Tryz.prog 280 (chkV h86 v99) (chkV h86 v101) (NV.bool true) h86) fun v102 h103 =>
 nextK h86 h103 (
 J95 v74 v75 v76 v77 h103)) (
 J95 v74 v75 v76 v77 h86)) (
 J73 v74 h78)) v65 v69 v70 (NV.int .i64 (.ofNat 0)) h66) fun J67 =>
 loopC N 5 (fun L110 v104 v105 v106 v107 v108 h109 =>
 bK (ltI v108 v107) fun v111 =>
 condK v111 (
 joinC 5 (fun v112 v113 v114 v115 v116 h117 =>
 bK (addI v116 (NV.int .i64 (.ofNat 1))) fun v119 =>
 L110 v112 v113 v114 v115 v119 h117) fun J118 =>
 bK (ixS 5 v106 v108) fun v120 =>
 bK (ldO 5 true h109 v120) fun v121 =>
 mK (alM (NB.cells [(NV.int .i64 (.ofNat 0)), (NV.int .i64 (.ofNat 0)), (NV.int .i64 (.ofNat 0)), NV.nslice, NV.nslice]) h109) fun v122 h123 =>
 mK (stM 5 v122 v121 h123) fun v124 h125 =>
 bK (fAddr 4 v122) fun v126 =>
 bK (ldO 1 false h125 v126) fun v127 =>
 bK (lenSl v127) fun v128 =>
 loopC N 8 (fun L138 v129 v130 v131 v132 v133 v134 v135 v136 h137 =>
 bK (ltI v136 v135) fun v139 =>
 condK v139 (
 bK (ixS 1 v134 v136) fun v140 =>
 bK (ldO 1 false h137 v140) fun v141 =>
 mK (calM call 155 [v130, v141] h137) fun v142 h143 =>
 bK (addI v136 (NV.int .i64 (.ofNat 1))) fun v144 =>
 L138 v129 v130 v131 v132 v133 v134 v135 v144 h143) (
 J118 v129 v130 v131 v132 v133 h137)) v104 v105 v106 v107 v108 v127 v128 (NV.int .i64 (.ofNat 0)) h125) (
 J67 v104 v105 h109)) v57 v58 v62 v63 (NV.int .i64 (.ofNat 0)) h59) fun J60 =>
 loopC N 5 (fun L151 v145 v146 v147 v148 v149 h150 =>
 bK (ltI v149 v148) fun v152 =>
 condK v152 (
 bK (ixS 3 v147 v149) fun v153 =>
 bK (ldO 3 true h150 v153) fun v154 =>
 mK (alM (NB.cells [(NV.int .i64 (.ofNat 0)), (NV.bool false), NV.nslice]) h150) fun v155 h156 =>
 mK (stM 3 v155 v154 h156) fun v157 h158 =>
 bK (nilO v146) fun v159 =>
 bK (fAddr 14 v159) fun v160 =>
 bK (ldO 1 false h158 (chkV h158 v160)) fun v161 =>
 bK (fAddr 0 v155) fun v162 =>
 bK (ldO 2 true h158 (chkV h158 v162)) fun v163 =>
 mK (bslM 1 false [(0, 2)] [(NV.int .i64 (.ofNat 0)), (NV.bool false)] [(chkV h158 v163)] h158) fun v164 h165 =>
 mK (appM Tryz.prog 65 (chkV h165 v161) (chkV h165 v164) h165) fun v166 h167 =>
 nextK h165 h167 (
 bK (nilO v146) fun v168 =>
 bK (fAddr 14 v168) fun v169 =>
 mK (stM 1 (chkV h167 v169) (chkV h167 v166) h167) fun v170 h171 =>
 nextK h167 h171 (
 bK (fAddr 2 v155) fun v172 =>
 bK (ldO 1 false h171 v172) fun v173 =>
 mK (calM call 155 [v146, v173] h171) fun v174 h175 =>
 bK (addI v149 (NV.int .i64 (.ofNat 1))) fun v176 =>
 L151 v145 v146 v147 v148 v176 h175))) (
 J60 v145 v146 h150)) v28 v29 v55 v56 (NV.int .i64 (.ofNat 0)) h53))))) fun J31 =>
 loopC N 5 (fun L183 v177 v178 v179 v180 v181 h182 =>
 bK (ltI v181 v180) fun v184 =>
 condK v184 (
 bK (ixS 3 v179 v181) fun v185 =>
 bK (ldO 3 true h182 v185) fun v186 =>
 mK (alM (NB.cells [(NV.int .i64 (.ofNat 0)), NV.nslice, NV.nslice]) h182) fun v187 h188 =>
 mK (stM 3 v187 v186 h188) fun v189 h190 =>
 bK (nilO v178) fun v191 =>
 bK (fAddr 11 v191) fun v192 =>
 bK (ldO 1 false h190 (chkV h190 v192)) fun v193 =>
 bK (fAddr 0 v187) fun v194 =>
 bK (ldO 1 false h190 (chkV h190 v194)) fun v195 =>
 mK (bslM 1 false [(0, 1)] [(NV.int .i64 (.ofNat 0))] [(chkV h190 v195)] h190) fun v196 h197 =>
 mK (appM Tryz.prog 3 (chkV h197 v193) (chkV h197 v196) h197) fun v198 h199 =>
 nextK h197 h199 (
 bK (nilO v178) fun v200 =>
 bK (fAddr 11 v200) fun v201 =>
 mK (stM 1 (chkV h199 v201) (chkV h199 v198) h199) fun v202 h203 =>
 nextK h199 h203 (
 bK (addI v181 (NV.int .i64 (.ofNat 1))) fun v204 =>
 L183 v177 v178 v179 v180 v204 h203))) (
 J31 v177 v178 h182)) v13 v14 v26 v27 (NV.int .i64 (.ofNat 0)) h24) fun J16 =>
 loopC N 5 (fun L211 v205 v206 v207 v208 v209 h210 =>
 bK (ltI v209 v208) fun v212 =>
 condK v212 (
 bK (ixS 13 v207 v209) fun v213 =>
 bK (ldO 13 true h210 v213) fun v214 =>
 mK (alM (NB.cells [(NV.str 0 0), (NV.str 0 0), (NV.int .i64 (.ofNat 0)), (NV.int .i64 (.ofNat 0)), (NV.int .i64 (.ofNat 0)), (NV.int .i64 (.ofNat 0)), (NV.int .i64 (.ofNat 0)), (NV.bool false), (NV.int .i64 (.ofNat 0)), (NV.int .i64 (.ofNat 0)), (NV.bool false), (NV.int .i64 (.ofNat 0)), (NV.bool false)]) h210) fun v215 h216 =>
 mK (stM 13 v215 v214 h216) fun v217 h218 =>
 bK (fAddr 2 v215) fun v219 =>
 bK (ldO 1 false h218 v219) fun v220 =>
 bK (eqI v220 (NV.int .i64 (.ofNat 0))) fun v221 =>
 joinC 5 (fun v222 v223 v224 v225 v226 h227 =>
 bK (addI v226 (NV.int .i64 (.ofNat 1))) fun v229 =>
 L211 v222 v223 v224 v225 v229 h227) fun J228 =>
 condK v221 (
 bK (nilO v206) fun v230 =>
 bK (fAddr 11 v230) fun v231 =>
 bK (ldO 1 false h218 (chkV h218 v231)) fun v232 =>
 bK (fAddr 3 v215) fun v233 =>
 bK (ldO 1 false h218 (chkV h218 v233)) fun v234 =>
 mK (bslM 1 false [(0, 1)] [(NV.int .i64 (.ofNat 0))] [(chkV h218 v234)] h218) fun v235 h236 =>
 mK (appM Tryz.prog 3 (chkV h236 v232) (chkV h236 v235) h236) fun v237 h238 =>
 nextK h236 h238 (
 bK (nilO v206) fun v239 =>
 bK (fAddr 11 v239) fun v240 =>
 mK (stM 1 (chkV h238 v240) (chkV h238 v237) h238) fun v241 h242 =>
 nextK h238 h242 (
 J228 v205 v206 v207 v208 v209 h242))) (
 bK (eqI v220 (NV.int .i64 (.ofNat 1))) fun v243 =>
 condK v243 (
 bK (nilO v206) fun v244 =>
 bK (fAddr 12 v244) fun v245 =>
 bK (ldO 1 false h218 (chkV h218 v245)) fun v246 =>
 bK (fAddr 4 v215) fun v247 =>
 bK (ldO 4 true h218 (chkV h218 v247)) fun v248 =>
 mK (bslM 1 false [(0, 4)] [(NV.int .i64 (.ofNat 0)), (NV.int .i64 (.ofNat 0)), (NV.int .i64 (.ofNat 0)), (NV.bool false)] [(chkV h218 v248)] h218) fun v249 h250 =>
 mK (appM Tryz.prog 63 (chkV h250 v246) (chkV h250 v249) h250) fun v251 h252 =>
 nextK h250 h252 (
 bK (nilO v206) fun v253 =>
 bK (fAddr 12 v253) fun v254 =>
 mK (stM 1 (chkV h252 v254) (chkV h252 v251) h252) fun v255 h256 =>
 nextK h252 h256 (
 J228 v205 v206 v207 v208 v209 h256))) (
 bK (eqI v220 (NV.int .i64 (.ofNat 2))) fun v257 =>
 condK v257 (
 bK (nilO v206) fun v258 =>
 bK (fAddr 13 v258) fun v259 =>
 bK (ldO 1 false h218 (chkV h218 v259)) fun v260 =>
 bK (fAddr 8 v215) fun v261 =>
 bK (ldO 3 true h218 (chkV h218 v261)) fun v262 =>
 mK (bslM 1 false [(0, 3)] [(NV.int .i64 (.ofNat 0)), (NV.int .i64 (.ofNat 0)), (NV.bool false)] [(chkV h218 v262)] h218) fun v263 h264 =>
 mK (appM Tryz.prog 61 (chkV h264 v260) (chkV h264 v263) h264) fun v265 h266 =>
 nextK h264 h266 (
 bK (nilO v206) fun v267 =>
 bK (fAddr 13 v267) fun v268 =>
 mK (stM 1 (chkV h266 v268) (chkV h266 v265) h266) fun v269 h270 =>
 nextK h266 h270 (
 J228 v205 v206 v207 v208 v209 h270))) (
 bK (nilO v206) fun v271 =>
 bK (fAddr 14 v271) fun v272 =>
 bK (ldO 1 false h218 (chkV h218 v272)) fun v273 =>
 bK (fAddr 11 v215) fun v274 =>
 bK (ldO 2 true h218 (chkV h218 v274)) fun v275 =>
 mK (bslM 1 false [(0, 2)] [(NV.int .i64 (.ofNat 0)), (NV.bool false)] [(chkV h218 v275)] h218) fun v276 h277 =>
 mK (appM Tryz.prog 65 (chkV h277 v273) (chkV h277 v276) h277) fun v278 h279 =>
 nextK h277 h279 (
 bK (nilO v206) fun v280 =>
 bK (fAddr 14 v280) fun v281 =>
 mK (stM 1 (chkV h279 v281) (chkV h279 v278) h279) fun v282 h283 =>
 nextK h279 h283 (
 J228 v205 v206 v207 v208 v209 h283)))))) (
 J16 v205 v206 h210)) v2 v8 v11 v12 (NV.int .i64 (.ofNat 0)) h9)
theorem e85 : ikB Tryz.prog 10 Tryz.f85 = S85 := by kernel_rfl
theorem k85 [Sig] (w0 : World) : SOK cW w0 85 S85 := okW Tryz.func85 (by kernel_rfl) e85
noncomputable def S86 (call : CallF) (N : Nat) (l : List NV) (h : H) : R :=
 uc l fun v0 l1 => un l1 (
 bK (nilO v0) fun v2 =>
 bK (fAddr 0 v2) fun v3 =>
 bK (ldO 11 true h v3) fun v4 =>
 mK (alM (NB.cells [NV.nslice, NV.nslice, NV.nslice, NV.nslice, NV.nslice, NV.nslice, NV.nslice, (NV.int .i64 (.ofNat 0)), NV.nslice, NV.nslice, (NV.bool false)]) h) fun v5 h6 =>
 mK (stM 11 v5 v4 h6) fun v7 h8 =>
 bK (nilO v0) fun v9 =>
 bK (fAddr 11 v9) fun v10 =>
 bK (ldO 1 false h8 v10) fun v11 =>
 bK (lenSl v11) fun v12 =>
 joinC 2 (fun v13 v14 h15 =>
 bK (nilO v13) fun v17 =>
 bK (fAddr 12 v17) fun v18 =>
 bK (ldO 1 false h15 v18) fun v19 =>
 mK (calM call 160 [v19, (NV.func (.func 157) [] [])] h15) fun v20 h21 =>
 jK (fun v22 h23 =>
 jK (fun v25 h26 =>
 jK (fun v28 h29 =>
 jK (fun v31 h32 =>
 jK (fun v34 h35 =>
 jK (fun v37 h38 =>
 bK (pickO v20 (NV.bool true) v37) fun v40 =>
 jK (fun v41 h42 =>
 jK (fun v44 h45 =>
 jK (fun v47 h48 =>
 jK (fun v50 h51 =>
 jK (fun v53 h54 =>
 jK (fun v56 h57 =>
 bK (pickO v40 (NV.bool true) v56) fun v59 =>
 condK v59 (
 retC (NV.bool false) h57) (
 bK (fAddr 5 v14) fun v60 =>
 bK (ldO 1 false h57 v60) fun v61 =>
 bK (lenSl v61) fun v62 =>
 joinC 2 (fun v63 v64 h65 =>
 bK (fAddr 7 v64) fun v67 =>
 bK (ldO 1 false h65 v67) fun v68 =>
 bK (gtI v68 (NV.int .i64 (.ofNat 0))) fun v69 =>
 joinC 1 (fun v70 h71 =>
 mK (calM call 163 [v70] h71) fun v73 h74 =>
 jK (fun v75 h76 =>
 jK (fun v78 h79 =>
 bK (pickO v73 v78 (NV.bool false)) fun v81 =>
 jK (fun v82 h83 =>
 jK (fun v85 h86 =>
 bK (pickO v81 v85 (NV.bool false)) fun v88 =>
 retC v88 h86) fun J87 => gK v81 true (
 mK (calM call 165 [v82] h83) fun v89 h90 =>
 J87 v89 h90) (J87 (NV.tuple []) h83)) fun J84 => gK v81 true (
 J84 v70 h79) (J84 (NV.tuple []) h79)) fun J80 => gK v73 true (
 mK (calM call 164 [v75] h76) fun v91 h92 =>
 J80 v91 h92) (J80 (NV.tuple []) h76)) fun J77 => gK v73 true (
 J77 v70 h74) (J77 (NV.tuple []) h74)) fun J72 =>
 condK v69 (
 bK (fAddr 7 v64) fun v93 =>
 bK (ldO 1 false h65 v93) fun v94 =>
 bK (subI v94 (NV.int .i64 (.ofNat 1))) fun v95 =>
 mK (calM call 156 [v63, v95] h65) fun v96 h97 =>
 bK (extO 0 v96) fun v98 =>
 bK (extO 1 v96) fun v99 =>
 mK (alM (NB.cells [NV.nslice, NV.nslice]) h97) fun v100 h101 =>
 mK (stM 2 v100 v98 h101) fun v102 h103 =>
 bK (notO v99) fun v104 =>
 jK (fun v105 h106 =>
 jK (fun v108 h109 =>
 jK (fun v111 h112 =>
 jK (fun v114 h115 =>
 jK (fun v117 h118 =>
 jK (fun v120 h121 =>
 jK (fun v123 h124 =>
 jK (fun v126 h127 =>
 bK (pickO v104 (NV.bool true) v126) fun v129 =>
 condK v129 (
 retC (NV.bool false) h127) (
 J72 v63 h127)) fun J128 => gK v104 false (
 bK (gtI v123 (NV.int .i64 (.ofNat 0))) fun v130 =>
 J128 v130 h124) (J128 (NV.tuple []) h124)) fun J125 => gK v104 false (
 bK (addI v111 v120) fun v131 =>
 J125 v131 h121) (J125 (NV.tuple []) h121)) fun J122 => gK v104 false (
 bK (lenSl v117) fun v132 =>
 J122 v132 h118) (J122 (NV.tuple []) h118)) fun J119 => gK v104 false (
 bK (ldO 1 false h115 v114) fun v133 =>
 J119 v133 h115) (J119 (NV.tuple []) h115)) fun J116 => gK v104 false (
 bK (fAddr 1 v100) fun v134 =>
 J116 v134 h112) (J116 (NV.tuple []) h112)) fun J113 => gK v104 false (
 bK (lenSl v108) fun v135 =>
 J113 v135 h109) (J113 (NV.tuple []) h109)) fun J110 => gK v104 false (
 bK (ldO 1 false h106 v105) fun v136 =>
 J110 v136 h106) (J110 (NV.tuple []) h106)) fun J107 => gK v104 false (
 bK (fAddr 0 v100) fun v137 =>
 J107 v137 h103) (J107 (NV.tuple []) h103)) (
 J72 v63 h65)) fun J66 =>
 loopC N 5 (fun L144 v138 v139 v140 v141 v142 h143 =>
 bK (ltI v142 v141) fun v145 =>
 condK v145 (
 bK (ixS 3 v140 v142) fun v146 =>
 bK (ldO 3 true h143 v146) fun v147 =>
 mK (alM (NB.cells [(NV.int .i64 (.ofNat 0)), (NV.bool false), NV.nslice]) h143) fun v148 h149 =>
 mK (stM 3 v148 v147 h149) fun v150 h151 =>
 bK (fAddr 2 v148) fun v152 =>
 bK (ldO 1 false h151 v152) fun v153 =>
 bK (fAddr 0 v148) fun v154 =>
 bK (fAddr 0 v154) fun v155 =>
 bK (ldO 1 false h151 v155) fun v156 =>
 mK (calM call 162 [v138, v153, v156] h151) fun v157 h158 =>
 bK (notO v157) fun v159 =>
 condK v159 (
 retC (NV.bool false) h158) (
 bK (addI v142 (NV.int .i64 (.ofNat 1))) fun v160 =>
 L144 v138 v139 v140 v141 v160 h158)) (
 J66 v138 v139 h143)) v13 v14 v61 v62 (NV.int .i64 (.ofNat 0)) h57)) fun J58 => gK v40 false (
 bK (gtI v53 (NV.int .i64 (.ofNat 1))) fun v161 =>
 J58 v161 h54) (J58 (NV.tuple []) h54)) fun J55 => gK v40 false (
 bK (lenSl v50) fun v162 =>
 J55 v162 h51) (J55 (NV.tuple []) h51)) fun J52 => gK v40 false (
 bK (ldO 1 false h48 v47) fun v163 =>
 J52 v163 h48) (J52 (NV.tuple []) h48)) fun J49 => gK v40 false (
 bK (fAddr 13 v44) fun v164 =>
 J49 v164 h45) (J49 (NV.tuple []) h45)) fun J46 => gK v40 false (
 bK (nilO v41) fun v165 =>
 J46 v165 h42) (J46 (NV.tuple []) h42)) fun J43 => gK v40 false (
 J43 v13 h38) (J43 (NV.tuple []) h38)) fun J39 => gK v20 false (
 mK (calM call 161 [v31, v34] h35) fun v166 h167 =>
 J39 v166 h167) (J39 (NV.tuple []) h35)) fun J36 => gK v20 false (
 J36 (NV.func (.func 159) [] []) h32) (J36 (NV.tuple []) h32)) fun J33 => gK v20 false (
 bK (ldO 1 false h29 v28) fun v168 =>
 J33 v168 h29) (J33 (NV.tuple []) h29)) fun J30 => gK v20 false (
 bK (fAddr 13 v25) fun v169 =>
 J30 v169 h26) (J30 (NV.tuple []) h26)) fun J27 => gK v20 false (
 bK (nilO v22) fun v170 =>
 J27 v170 h23) (J27 (NV.tuple []) h23)) fun J24 => gK v20 false (
 J24 v13 h21) (J24 (NV.tuple []) h21)) fun J16 =>
 loopC N 4 (fun L176 v171 v172 v173 v174 h175 =>
 bK (ltI v174 v173) fun v177 =>
 condK v177 (
 mK (calM call 156 [v171, v174] h175) fun v178 h179 =>
 bK (extO 0 v178) fun v180 =>
 bK (extO 1 v178) fun v181 =>
 mK (alM (NB.cells [NV.nslice, NV.nslice]) h179) fun v182 h183 =>
 mK (stM 2 v182 v180 h183) fun v184 h185 =>
 bK (notO v181) fun v186 =>
 condK v186 (
 retC (NV.bool false) h185) (
 bK (addI v174 (NV.int .i64 (.ofNat 1))) fun v187 =>
 L176 v171 v172 v173 v187 h185)) (
 J16 v171 v172 h175)) v0 v5 v12 (NV.int .i64 (.ofNat 0)) h8)
theorem e86 : ikB Tryz.prog 10 Tryz.f86 = S86 := by kernel_rfl
theorem k86 [Sig] (w0 : World) : SOK cW w0 86 S86 := okW Tryz.func86 (by kernel_rfl) e86
noncomputable def S87 (call : CallF) (N : Nat) (l : List NV) (h : H) : R :=
 uc l fun v0 l1 => uc l1 fun v2 l3 => un l3 (
 bK (nilO v0) fun v4 =>
 bK (fAddr 16 v4) fun v5 =>
 mK (stM 1 v5 (NV.bool false) h) fun v6 h7 =>
 bK (lenSl v2) fun v8 =>
 loopC N 4 (fun L14 v9 v10 v11 v12 h13 =>
 bK (ltI v12 v11) fun v15 =>
 condK v15 (
 bK (ixS 9 v10 v12) fun v16 =>
 bK (ldO 9 true h13 v16) fun v17 =>
 mK (alM (NB.cells [(NV.int .i64 (.ofNat 0)), (NV.int .i64 (.ofNat 0)), (NV.int .i64 (.ofNat 0)), (NV.int .u64 (.ofNat 0)), (NV.int .u64 (.ofNat 0)), NV.nslice, NV.nslice, NV.nslice, (NV.bool false)]) h13) fun v18 h19 =>
 mK (stM 9 v18 v17 h19) fun v20 h21 =>
 bK (nilO v9) fun v22 =>
 bK (fAddr 16 v22) fun v23 =>
 bK (ldO 1 false h21 v23) fun v24 =>
 bK (notO v24) fun v25 =>
 joinC 4 (fun v26 v27 v28 v29 h30 =>
 bK (addI v29 (NV.int .i64 (.ofNat 1))) fun v32 =>
 L14 v26 v27 v28 v32 h30) fun J31 =>
 condK v25 (
 bK (ldO 9 true h21 v18) fun v33 =>
 mK (calM call 166 [v9, v33] h21) fun v34 h35 =>
 J31 v9 v10 v11 v12 h35) (
 J31 v9 v10 v11 v12 h21)) (
 retC (NV.tuple []) h13)) v0 v2 v8 (NV.int .i64 (.ofNat 0)) h7)
theorem e87 : ikB Tryz.prog 10 Tryz.f87 = S87 := by kernel_rfl
theorem k87 [Sig] (w0 : World) : SOK cW w0 87 S87 := okW Tryz.func87 (by kernel_rfl) e87
noncomputable def S88 (call : CallF) (N : Nat) (l : List NV) (h : H) : R :=
 uc l fun v0 l1 => uc l1 fun v2 l3 => un l3 (
 bK (nilO v0) fun v4 =>
 bK (fAddr 2 v4) fun v5 =>
 mK (stM 1 v5 v2 h) fun v6 h7 =>
 bK (nilO v0) fun v8 =>
 bK (fAddr 3 v8) fun v9 =>
 bK (ldO 1 false h7 v9) fun v10 =>
 bK (lenSl v10) fun v11 =>
 loopC N 4 (fun L17 v12 v13 v14 v15 h16 =>
 bK (ltI v15 v14) fun v18 =>
 condK v18 (
 bK (ixS 1 v13 v15) fun v19 =>
 bK (ldO 1 false h16 v19) fun v20 =>
 mK (calV call v20 [v12] h16) fun v21 h22 =>
 bK (addI v15 (NV.int .i64 (.ofNat 1))) fun v23 =>
 L17 v12 v13 v14 v23 h22) (
 retC (NV.tuple []) h16)) v2 v10 v11 (NV.int .i64 (.ofNat 0)) h7)
theorem e88 : ikB Tryz.prog 10 Tryz.f88 = S88 := by kernel_rfl
theorem k88 [Sig] (w0 : World) : SOK cW w0 88 S88 := okW Tryz.func88 (by kernel_rfl) e88
noncomputable def S89 (call : CallF) (N : Nat) (l : List NV) (h : H) : R :=
 uc l fun v0 l1 => un l1 (
 bK (eqD Tryz.prog .eql 25 h v0 NV.nslice) fun v2 =>
 condK v2 (
 retC NV.nslice h) (
 mK (bslM 0 false [] [] [] h) fun v3 h4 =>
 mK (appM Tryz.prog 3 v3 v0 h4) fun v5 h6 =>
 retC v5 h6))
theorem e89 : ikB Tryz.prog 10 Tryz.f89 = S89 := by kernel_rfl
theorem k89 [Sig] (w0 : World) : SOK cW w0 89 S89 := okW Tryz.func89 (by kernel_rfl) e89
noncomputable def S91 (call : CallF) (N : Nat) (l : List NV) (h : H) : R :=
 uc l fun v0 l1 => uc l1 fun v2 l3 => un l3 (
 mK (calM call 169 [v0] h) fun v4 h5 =>
 mK (calM call 168 [v4] h5) fun v6 h7 =>
 bK (lenSl v6) fun v8 =>
 bK (ltI v2 v8) fun v9 =>
 condK v9 (
 bK (ixS 1 v6 v2) fun v10 =>
 bK (ldO 1 false h7 v10) fun v11 =>
 retC v11 h7) (
 retC (NV.str 0 0) h7))
theorem e91 : ikB Tryz.prog 10 Tryz.f91 = S91 := by kernel_rfl
theorem k91 [Sig] (w0 : World) : SOK cW w0 91 S91 := okW Tryz.func91 (by kernel_rfl) e91
noncomputable def S90 (call : CallF) (N : Nat) (l : List NV) (h : H) : R :=
 uc l fun v0 l1 => uc l1 fun v2 l3 => un l3 (
 mK (calM call 167 [v0, v2] h) fun v4 h5 =>
 bK (extO 0 v4) fun v6 =>
 bK (extO 1 v4) fun v7 =>
 bK (extO 2 v4) fun v8 =>
 retC (NV.tuple [v6, v7, v8]) h5)
theorem e90 : ikB Tryz.prog 10 Tryz.f90 = S90 := by kernel_rfl
theorem k90 [Sig] (w0 : World) : SOK cW w0 90 S90 := okW Tryz.func90 (by kernel_rfl) e90
noncomputable def S92 (call : CallF) (N : Nat) (l : List NV) (h : H) : R :=
 uc l fun v0 l1 => un l1 (
 mK (s2bM v0 h) fun v2 h3 =>
 bK (lenSl v2) fun v4 =>
 joinC 1 (fun v5 h6 =>
 retC v5 h6) fun J7 =>
 loopC N 4 (fun L13 v8 v9 v10 v11 h12 =>
 bK (ltI v11 v10) fun v14 =>
 condK v14 (
 bK (ixS 1 v9 v11) fun v15 =>
 bK (ldO 1 false h12 v15) fun v16 =>
 bK (eqI v16 (NV.int .u8 (.ofNat 105))) fun v17 =>
 joinC 4 (fun v18 v19 v20 v21 h22 =>
 bK (addI v21 (NV.int .i64 (.ofNat 1))) fun v24 =>
 L13 v18 v19 v20 v24 h22) fun J23 =>
 condK v17 (
 mK (bslM 1 false [(0, 1)] [(NV.int .i64 (.ofNat 0))] [(NV.int .i64 (.ofNat 127))] h12) fun v25 h26 =>
 mK (appM Tryz.prog 3 v8 v25 h26) fun v27 h28 =>
 J23 v27 v9 v10 v11 h28) (
 bK (eqI v16 (NV.int .u8 (.ofNat 108))) fun v29 =>
 condK v29 (
 mK (bslM 1 false [(0, 1)] [(NV.int .i64 (.ofNat 0))] [(NV.int .i64 (.ofNat 126))] h12) fun v30 h31 =>
 mK (appM Tryz.prog 3 v8 v30 h31) fun v32 h33 =>
 J23 v32 v9 v10 v11 h33) (
 bK (eqI v16 (NV.int .u8 (.ofNat 102))) fun v34 =>
 condK v34 (
 mK (bslM 1 false [(0, 1)] [(NV.int .i64 (.ofNat 0))] [(NV.int .i64 (.ofNat 125))] h12) fun v35 h36 =>
 mK (appM Tryz.prog 3 v8 v35 h36) fun v37 h38 =>
 J23 v37 v9 v10 v11 h38) (
 bK (eqI v16 (NV.int .u8 (.ofNat 100))) fun v39 =>
 condK v39 (
 mK (bslM 1 false [(0, 1)] [(NV.int .i64 (.ofNat 0))] [(NV.int .i64 (.ofNat 124))] h12) fun v40 h41 =>
 mK (appM Tryz.prog 3 v8 v40 h41) fun v42 h43 =>
 J23 v42 v9 v10 v11 h43) (
 bK (eqI v16 (NV.int .u8 (.ofNat 118))) fun v44 =>
 condK v44 (
 mK (bslM 1 false [(0, 1)] [(NV.int .i64 (.ofNat 0))] [(NV.int .i64 (.ofNat 123))] h12) fun v45 h46 =>
 mK (appM Tryz.prog 3 v8 v45 h46) fun v47 h48 =>
 J23 v47 v9 v10 v11 h48) (
 mK (bslM 1 false [(0, 1)] [(NV.int .i64 (.ofNat 0))] [(NV.int .i64 (.ofNat 112))] h12) fun v49 h50 =>
 mK (appM Tryz.prog 3 v8 v49 h50) fun v51 h52 =>
 J23 v51 v9 v10 v11 h52)))))) (
 J7 v8 h12)) NV.nslice v2 v4 (NV.int .i64 (.ofNat 0)) h3)
theorem e92 : ikB Tryz.prog 10 Tryz.f92 = S92 := by kernel_rfl
theorem k92 [Sig] (w0 : World) : SOK cW w0 92 S92 := okW Tryz.func92 (by kernel_rfl) e92
noncomputable def S93 (call : CallF) (N : Nat) (l : List NV) (h : H) : R :=
 uc l fun v0 l1 => un l1 (
 mK (calM call 91 [v0, (NV.int .i64 (.ofNat 1))] h) fun v2 h3 =>
 mK (s2bM v2 h3) fun v4 h5 =>
 bK (lenSl v4) fun v6 =>
 joinC 1 (fun v7 h8 =>
 retC v7 h8) fun J9 =>
 loopC N 4 (fun L15 v10 v11 v12 v13 h14 =>
 bK (ltI v13 v12) fun v16 =>
 condK v16 (
 bK (ixS 1 v11 v13) fun v17 =>
 bK (ldO 1 false h14 v17) fun v18 =>
 bK (binO .mul (NV.int .i64 (.ofNat 10)) v10) fun v19 =>
 bK (subI v18 (NV.int .u8 (.ofNat 48))) fun v20 =>
 bK (cvI .i64 v20) fun v21 =>
 bK (addI v19 v21) fun v22 =>
 bK (addI v13 (NV.int .i64 (.ofNat 1))) fun v23 =>
 L15 v22 v11 v12 v23 h14) (
 J9 v10 h14)) (NV.int .i64 (.ofNat 0)) v4 v6 (NV.int .i64 (.ofNat 0)) h5)
theorem e93 : ikB Tryz.prog 10 Tryz.f93 = S93 := by kernel_rfl
theorem k93 [Sig] (w0 : World) : SOK cW w0 93 S93 := okW Tryz.func93 (by kernel_rfl) e93
noncomputable def S94 (call : CallF) (N : Nat) (l : List NV) (h : H) : R :=
 uc l fun v0 l1 => un l1 (
 mK (calM call 169 [v0] h) fun v2 h3 =>
 bK (binO .neq v2 (NV.str 0 0)) fun v4 =>
 retC v4 h3)
theorem e94 : ikB Tryz.prog 10 Tryz.f94 = S94 := by kernel_rfl
theorem k94 [Sig] (w0 : World) : SOK cW w0 94 S94 := okW Tryz.func94 (by kernel_rfl) e94
noncomputable def S95 (call : CallF) (N : Nat) (l : List NV) (h : H) : R :=
 uc l fun v0 l1 => uc l1 fun v2 l3 => uc l3 fun v4 l5 => un l5 (
 mK (alM (NB.cells [(NV.int .i64 (.ofNat 0)), (NV.int .u64 (.ofNat 0)), (NV.int .u64 (.ofNat 0)), (NV.bool false)]) h) fun v6 h7 =>
 bK (geI v0 (NV.int .i64 (.ofNat 64768))) fun v8 =>
 condK v8 (
 mK (calM call 171 [v4] h7) fun v9 h10 =>
 mK (calM call 170 [v0, v2, v9] h10) fun v11 h12 =>
 bK (extO 0 v11) fun v13 =>
 bK (extO 1 v11) fun v14 =>
 mK (stM 4 v6 v13 h12) fun v15 h16 =>
 bK (ldB 4 true h16 v6) fun v17 =>
 retC (NV.tuple [v17, v14]) h16) (
 mK (calM call 56 [v0] h7) fun v18 h19 =>
 bK (extO 0 v18) fun v20 =>
 bK (extO 1 v18) fun v21 =>
 bK (extO 2 v18) fun v22 =>
 mK (calM call 57 [v0] h19) fun v23 h24 =>
 bK (notO v23) fun v25 =>
 jK (fun v26 h27 =>
 jK (fun v29 h30 =>
 jK (fun v32 h33 =>
 bK (pickO v25 (NV.bool true) v32) fun v35 =>
 jK (fun v36 h37 =>
 jK (fun v39 h40 =>
 jK (fun v42 h43 =>
 jK (fun v45 h46 =>
 jK (fun v48 h49 =>
 bK (pickO v35 (NV.bool true) v48) fun v51 =>
 condK v51 (
 bK (bldO [] [(NV.int .i64 (.ofNat 0)), (NV.int .u64 (.ofNat 0)), (NV.int .u64 (.ofNat 0)), (NV.bool false)] []) fun v52 =>
 mK (stM 4 v6 v52 h49) fun v53 h54 =>
 bK (ldB 4 true h54 v6) fun v55 =>
 retC (NV.tuple [v55, (NV.int .i64 (.ofNat 1))]) h54) (
 bK (lenSl v4) fun v56 =>
 joinC 5 (fun v57 v58 v59 v60 v61 h62 =>
 mK (calM call 171 [v58] h62) fun v64 h65 =>
 bK (ixS 4 v64 (NV.int .i64 (.ofNat 0))) fun v66 =>
 bK (fAddr 1 v66) fun v67 =>
 bK (ldO 1 false h65 v67) fun v68 =>
 bK (lenSl v64) fun v69 =>
 bK (gtI v69 (NV.int .i64 (.ofNat 1))) fun v70 =>
 joinC 6 (fun v71 v72 v73 v74 v75 v76 h77 =>
 bK (ixS 1 v73 (NV.int .i64 (.ofNat 0))) fun v79 =>
 bK (ldO 1 false h77 v79) fun v80 =>
 mK (calM call 173 [v80] h77) fun v81 h82 =>
 mK (calM call 172 [v71, v81, v75, v76] h82) fun v83 h84 =>
 bK (extO 0 v83) fun v85 =>
 bK (extO 1 v83) fun v86 =>
 bK (neI v86 (NV.int .i64 (.ofNat 0))) fun v87 =>
 condK v87 (
 bK (bldO [] [(NV.int .i64 (.ofNat 0)), (NV.int .u64 (.ofNat 0)), (NV.int .u64 (.ofNat 0)), (NV.bool false)] []) fun v88 =>
 mK (stM 4 v72 v88 h84) fun v89 h90 =>
 bK (ldB 4 true h90 v72) fun v91 =>
 retC (NV.tuple [v91, v86]) h90) (
 bK (ixS 1 v74 (NV.int .i64 (.ofNat 0))) fun v92 =>
 bK (ldO 1 false h84 v92) fun v93 =>
 bK (bldO [(0, 1), (1, 1)] [(NV.int .i64 (.ofNat 0)), (NV.int .u64 (.ofNat 0)), (NV.int .u64 (.ofNat 0)), (NV.bool false)] [v93, v85]) fun v94 =>
 mK (bslM 1 false [(0, 4)] [(NV.int .i64 (.ofNat 0)), (NV.int .u64 (.ofNat 0)), (NV.int .u64 (.ofNat 0)), (NV.bool false)] [v94] h84) fun v95 h96 =>
 mK (calM call 171 [v95] h96) fun v97 h98 =>
 bK (ixS 4 v97 (NV.int .i64 (.ofNat 0))) fun v99 =>
 bK (ldO 4 true h98 v99) fun v100 =>
 mK (stM 4 v72 v100 h98) fun v101 h102 =>
 bK (ldB 4 true h102 v72) fun v103 =>
 retC (NV.tuple [v103, (NV.int .i64 (.ofNat 0))]) h102)) fun J78 =>
 condK v70 (
 bK (ixS 4 v64 (NV.int .i64 (.ofNat 1))) fun v104 =>
 bK (fAddr 1 v104) fun v105 =>
 bK (ldO 1 false h65 v105) fun v106 =>
 J78 v57 v59 v60 v61 v68 v106 h65) (
 J78 v57 v59 v60 v61 v68 (NV.int .u64 (.ofNat 0)) h65)) fun J63 =>
 loopC N 8 (fun L116 v107 v108 v109 v110 v111 v112 v113 v114 h115 =>
 bK (ltI v114 v113) fun v117 =>
 condK v117 (
 bK (ixS 4 v112 v114) fun v118 =>
 bK (ldO 4 true h115 v118) fun v119 =>
 mK (alM (NB.cells [(NV.int .i64 (.ofNat 0)), (NV.int .u64 (.ofNat 0)), (NV.int .u64 (.ofNat 0)), (NV.bool false)]) h115) fun v120 h121 =>
 mK (stM 4 v120 v119 h121) fun v122 h123 =>
 bK (fAddr 0 v120) fun v124 =>
 bK (ldO 1 false h123 (chkV h123 v124)) fun v125 =>
 bK (ixS 1 v110 v114) fun v126 =>
 bK (ldO 1 false h123 (chkV h123 v126)) fun v127 =>
 bK (neI v125 v127) fun v128 =>
 condK v128 (
 bK (bldO [] [(NV.int .i64 (.ofNat 0)), (NV.int .u64 (.ofNat 0)), (NV.int .u64 (.ofNat 0)), (NV.bool false)] []) fun v129 =>
 mK (stM 4 v109 v129 h123) fun v130 h131 =>
 bK (ldB 4 true h131 v109) fun v132 =>
 retC (NV.tuple [v132, (NV.int .i64 (.ofNat 1))]) h131) (
 bK (addI v114 (NV.int .i64 (.ofNat 1))) fun v133 =>
 L116 v107 v108 v109 v110 v111 v112 v113 v133 h123)) (
 J63 v107 v108 v109 v110 v111 h115)) v0 v4 v6 v20 v21 v4 v56 (NV.int .i64 (.ofNat 0)) h49)) fun J50 => gK v35 false (
 bK (neI v39 v45) fun v134 =>
 J50 v134 h46) (J50 (NV.tuple []) h46)) fun J47 => gK v35 false (
 bK (lenSl v42) fun v135 =>
 J47 v135 h43) (J47 (NV.tuple []) h43)) fun J44 => gK v35 false (
 J44 v20 h40) (J44 (NV.tuple []) h40)) fun J41 => gK v35 false (
 bK (lenSl v36) fun v136 =>
 J41 v136 h37) (J41 (NV.tuple []) h37)) fun J38 => gK v35 false (
 J38 v4 h33) (J38 (NV.tuple []) h33)) fun J34 => gK v25 false (
 bK (gtI v29 (NV.int .i64 (.ofNat 0))) fun v137 =>
 J34 v137 h30) (J34 (NV.tuple []) h30)) fun J31 => gK v25 false (
 bK (lenSl v26) fun v138 =>
 J31 v138 h27) (J31 (NV.tuple []) h27)) fun J28 => gK v25 false (
 J28 v2 h24) (J28 (NV.tuple []) h24)))
theorem e95 : ikB Tryz.prog 10 Tryz.f95 = S95 := by kernel_rfl
theorem k95 [Sig] (w0 : World) : SOK cW w0 95 S95 := okW Tryz.func95 (by kernel_rfl) e95
noncomputable def S118 (call : CallF) (N : Nat) (l : List NV) (h : H) : R :=
 uc l fun v0 l1 => uc l1 fun v2 l3 => un l3 (
 bK (nilO v0) fun v4 =>
 bK (fAddr 6 v4) fun v5 =>
 bK (ldO 1 false h v5) fun v6 =>
 bK (eqI v6 (NV.int .i64 (.ofNat 0))) fun v7 =>
 condK v7 (
 bK (nilO v0) fun v8 =>
 bK (fAddr 6 v8) fun v9 =>
 mK (stM 1 v9 v2 h) fun v10 h11 =>
 retC (NV.tuple []) h11) (
 retC (NV.tuple []) h))
theorem e118 : ikB Tryz.prog 10 Tryz.f118 = S118 := by kernel_rfl
theorem k118 [Sig] (w0 : World) : SOK cW w0 118 S118 := okW Tryz.func118 (by kernel_rfl) e118
noncomputable def S119 (call : CallF) (N : Nat) (l : List NV) (h : H) : R :=
 uc l fun v0 l1 => un l1 (
 mK (alM (NB.cells [(NV.int .i64 (.ofNat 0)), (NV.int .u64 (.ofNat 0)), (NV.int .u64 (.ofNat 0)), (NV.bool false)]) h) fun v2 h3 =>
 bK (nilO v0) fun v4 =>
 bK (fAddr 19 v4) fun v5 =>
 bK (ldO 1 false h3 (chkV h3 v5)) fun v6 =>
 bK (nilO v0) fun v7 =>
 bK (fAddr 19 v7) fun v8 =>
 bK (ldO 1 false h3 (chkV h3 v8)) fun v9 =>
 bK (lenSl v9) fun v10 =>
 bK (subI v10 (NV.int .i64 (.ofNat 1))) fun v11 =>
 bK (ixS 4 v6 v11) fun v12 =>
 bK (ldO 4 true h3 (chkV h3 v12)) fun v13 =>
 mK (alM (NB.cells [(NV.int .i64 (.ofNat 0)), (NV.int .u64 (.ofNat 0)), (NV.int .u64 (.ofNat 0)), (NV.bool false)]) h3) fun v14 h15 =>
 mK (stM 4 (chkV h15 v14) (chkV h15 v13) h15) fun v16 h17 =>
 nextK h15 h17 (
 bK (nilO v0) fun v18 =>
 bK (fAddr 19 v18) fun v19 =>
 bK (ldO 1 false h17 (chkV h17 v19)) fun v20 =>
 bK (nilO v0) fun v21 =>
 bK (fAddr 19 v21) fun v22 =>
 bK (ldO 1 false h17 (chkV h17 v22)) fun v23 =>
 bK (lenSl v23) fun v24 =>
 bK (subI v24 (NV.int .i64 (.ofNat 1))) fun v25 =>
 bK (slcO Tryz.prog 47 h17 (chkV h17 v20) none (some (chkV h17 v25)) none) fun v26 =>
 bK (nilO v0) fun v27 =>
 bK (fAddr 19 v27) fun v28 =>
 mK (stM 1 (chkV h17 v28) (chkV h17 v26) h17) fun v29 h30 =>
 nextK h17 h30 (
 bK (ldO 4 true h30 v14) fun v31 =>
 mK (stM 4 v2 v31 h30) fun v32 h33 =>
 bK (ldB 4 true h33 v2) fun v34 =>
 retC v34 h33)))
theorem e119 : ikB Tryz.prog 10 Tryz.f119 = S119 := by kernel_rfl
theorem k119 [Sig] (w0 : World) : SOK cW w0 119 S119 := okW Tryz.func119 (by kernel_rfl) e119
noncomputable def S120 (call : CallF) (N : Nat) (l : List NV) (h : H) : R :=
 uc l fun v0 l1 => uc l1 fun v2 l3 => uc l3 fun v4 l5 => un l5 (
 bK (nilO v2) fun v6 =>
 bK (fAddr 19 v6) fun v7 =>
 bK (ldO 1 false h (chkV h v7)) fun v8 =>
 bK (lenSl v8) fun v9 =>
 bK (nilO v0) fun v10 =>
 bK (fAddr 0 v10) fun v11 =>
 bK (ldO 1 false h (chkV h v11)) fun v12 =>
 bK (nilO v12) fun v13 =>
 bK (fAddr 0 v13) fun v14 =>
 bK (ldO 1 false h (chkV h v14)) fun v15 =>
 bK (ixS 5 v15 v4) fun v16 =>
 bK (fAddr 0 v16) fun v17 =>
 bK (fAddr 0 v17) fun v18 =>
 bK (ldO 1 false h (chkV h v18)) fun v19 =>
 bK (lenSl v19) fun v20 =>
 bK (subI v9 v20) fun v21 =>
 bK (nilO v2) fun v22 =>
 bK (fAddr 19 v22) fun v23 =>
 bK (ldO 1 false h v23) fun v24 =>
 bK (slcO Tryz.prog 47 h v24 (some v21) none none) fun v25 =>
 mK (calM call 18 [v0, v4, v25] h) fun v26 h27 =>
 bK (nilO v2) fun v28 =>
 bK (fAddr 19 v28) fun v29 =>
 bK (ldO 1 false h27 v29) fun v30 =>
 bK (slcO Tryz.prog 47 h27 v30 none (some v21) (some v21)) fun v31 =>
 mK (appM Tryz.prog 59 v31 v26 h27) fun v32 h33 =>
 bK (nilO v2) fun v34 =>
 bK (fAddr 19 v34) fun v35 =>
 mK (stM 1 v35 v32 h33) fun v36 h37 =>
 retC (NV.tuple []) h37)
theorem e120 : ikB Tryz.prog 10 Tryz.f120 = S120 := by kernel_rfl
theorem k120 [Sig] (w0 : World) : SOK cW w0 120 S120 := okW Tryz.func120 (by kernel_rfl) e120
noncomputable def S121 (call : CallF) (N : Nat) (l : List NV) (h : H) : R :=
 uc l fun v0 l1 => uc l1 fun v2 l3 => uc l3 fun v4 l5 => un l5 (
 mK (boxM false v4 h) fun v6 h7 =>
 bK (nilO v0) fun v8 =>
 bK (fAddr 0 v8) fun v9 =>
 bK (ldO 1 false h7 (chkV h7 v9)) fun v10 =>
 bK (nilO v10) fun v11 =>
 bK (fAddr 1 v11) fun v12 =>
 bK (ldO 1 false h7 (chkV h7 v12)) fun v13 =>
 bK (nilO v2) fun v14 =>
 bK (fAddr 0 v14) fun v15 =>
 bK (fAddr 12 v15) fun v16 =>
 bK (ldO 1 false h7 (chkV h7 v16)) fun v17 =>
 bK (fAddr 2 v6) fun v18 =>
 bK (ldO 1 false h7 (chkV h7 v18)) fun v19 =>
 bK (ixS 1 v17 v19) fun v20 =>
 bK (ldO 1 false h7 (chkV h7 v20)) fun v21 =>
 bK (ixS 5 v13 v21) fun v22 =>
 bK (ldO 5 true h7 (chkV h7 v22)) fun v23 =>
 mK (alM (NB.cells [(NV.int .i64 (.ofNat 0)), (NV.int .i64 (.ofNat 0)), (NV.int .i64 (.ofNat 0)), (NV.bool false), NV.nslice]) h7) fun v24 h25 =>
 mK (stM 5 (chkV h25 v24) (chkV h25 v23) h25) fun v26 h27 =>
 nextK h25 h27 (
 mK (calM call 119 [v2] h27) fun v28 h29 =>
 bK (fldO false 1 1 v28) fun v30 =>
 bK (fAddr 4 v24) fun v31 =>
 bK (ldO 1 false h29 v31) fun v32 =>
 bK (lenSl v32) fun v33 =>
 bK (cvI .u64 v33) fun v34 =>
 bK (geI v30 v34) fun v35 =>
 condK v35 (
 mK (calM call 118 [v0, (NV.int .i64 (.ofNat 48))] h29) fun v36 h37 =>
 retC (NV.tuple []) h37) (
 bK (fAddr 4 v24) fun v38 =>
 bK (ldO 1 false h29 v38) fun v39 =>
 bK (ixS 4 v39 v30) fun v40 =>
 bK (ldO 4 true h29 v40) fun v41 =>
 mK (alM (NB.cells [(NV.int .i64 (.ofNat 0)), (NV.int .u64 (.ofNat 0)), (NV.int .u64 (.ofNat 0)), (NV.bool false)]) h29) fun v42 h43 =>
 mK (stM 4 v42 v41 h43) fun v44 h45 =>
 bK (fAddr 3 v42) fun v46 =>
 bK (ldO 1 false h45 v46) fun v47 =>
 condK v47 (
 mK (calM call 118 [v0, (NV.int .i64 (.ofNat 46))] h45) fun v48 h49 =>
 retC (NV.tuple []) h49) (
 bK (nilO v0) fun v50 =>
 bK (fAddr 0 v50) fun v51 =>
 bK (ldO 1 false h45 (chkV h45 v51)) fun v52 =>
 bK (nilO v52) fun v53 =>
 bK (fAddr 0 v53) fun v54 =>
 bK (ldO 1 false h45 (chkV h45 v54)) fun v55 =>
 bK (fAddr 1 v42) fun v56 =>
 bK (ldO 1 false h45 (chkV h45 v56)) fun v57 =>
 bK (ixS 5 v55 v57) fun v58 =>
 bK (fAddr 0 v58) fun v59 =>
 bK (ldO 2 true h45 (chkV h45 v59)) fun v60 =>
 mK (alM (NB.cells [NV.nslice, NV.nslice]) h45) fun v61 h62 =>
 mK (stM 2 (chkV h62 v61) (chkV h62 v60) h62) fun v63 h64 =>
 nextK h62 h64 (
 bK (nilO v2) fun v65 =>
 bK (fAddr 0 v65) fun v66 =>
 bK (fAddr 0 v66) fun v67 =>
 bK (fAddr 0 v67) fun v68 =>
 bK (ldO 1 false h64 (chkV h64 v68)) fun v69 =>
 bK (fAddr 1 v6) fun v70 =>
 bK (ldO 1 false h64 (chkV h64 v70)) fun v71 =>
 bK (ixS 2 v69 v71) fun v72 =>
 bK (ldO 2 true h64 (chkV h64 v72)) fun v73 =>
 mK (alM (NB.cells [NV.nslice, NV.nslice]) h64) fun v74 h75 =>
 mK (stM 2 (chkV h75 v74) (chkV h75 v73) h75) fun v76 h77 =>
 nextK h75 h77 (
 bK (fAddr 0 v61) fun v78 =>
 bK (ldO 1 false h77 v78) fun v79 =>
 bK (fAddr 0 v74) fun v80 =>
 bK (ldO 1 false h77 v80) fun v81 =>
 mK (calM call 127 [v79, v81] h77) fun v82 h83 =>
 bK (fAddr 1 v61) fun v84 =>
 bK (ldO 1 false h83 v84) fun v85 =>
 bK (fAddr 1 v74) fun v86 =>
 bK (ldO 1 false h83 v86) fun v87 =>
 mK (calM call 127 [v85, v87] h83) fun v88 h89 =>
 bK (notO v82) fun v90 =>
 jK (fun v91 h92 =>
 jK (fun v94 h95 =>
 bK (pickO v90 (NV.bool true) v94) fun v97 =>
 condK v97 (
 mK (calM call 118 [v0, (NV.int .i64 (.ofNat 47))] h95) fun v98 h99 =>
 retC (NV.tuple []) h99) (
 bK (fAddr 1 v42) fun v100 =>
 bK (ldO 1 false h95 v100) fun v101 =>
 bK (cvI .i64 v101) fun v102 =>
 mK (calM call 120 [v0, v2, v102] h95) fun v103 h104 =>
 retC (NV.tuple []) h104)) fun J96 => gK v90 false (
 bK (notO v91) fun v105 =>
 J96 v105 h92) (J96 (NV.tuple []) h92)) fun J93 => gK v90 false (
 J93 v88 h89) (J93 (NV.tuple []) h89)))))))
theorem e121 : ikB Tryz.prog 10 Tryz.f121 = S121 := by kernel_rfl
theorem k121 [Sig] (w0 : World) : SOK cW w0 121 S121 := okW Tryz.func121 (by kernel_rfl) e121
noncomputable def S122 (call : CallF) (N : Nat) (l : List NV) (h : H) : R :=
 uc l fun v0 l1 => uc l1 fun v2 l3 => uc l3 fun v4 l5 => uc l5 fun v6 l7 => un l7 (
 mK (boxM false v4 h) fun v8 h9 =>
 mK (boxM false v6 h9) fun v10 h11 =>
 bK (fAddr 0 v8) fun v12 =>
 bK (ldO 1 false h11 v12) fun v13 =>
 mK (calM call 185 [v13] h11) fun v14 h15 =>
 condK v14 (
 bK (fAddr 3 v10) fun v16 =>
 bK (ldO 1 false h15 v16) fun v17 =>
 mK (calM call 48 [v17] h15) fun v18 h19 =>
 bK (lenSl v18) fun v20 =>
 bK (nilO v2) fun v21 =>
 bK (fAddr 19 v21) fun v22 =>
 bK (ldO 1 false h19 v22) fun v23 =>
 bK (lenSl v23) fun v24 =>
 bK (subI v24 v20) fun v25 =>
 bK (fAddr 5 v8) fun v26 =>
 bK (ldO 1 false h19 v26) fun v27 =>
 mK (appM Tryz.prog 3 NV.nslice v27 h19) fun v28 h29 =>
 bK (fAddr 2 v10) fun v30 =>
 bK (ldO 1 false h29 v30) fun v31 =>
 bK (eqI v31 (NV.int .i64 (.ofNat 25))) fun v32 =>
 joinC 5 (fun v33 v34 v35 v36 v37 h38 =>
 bK (fAddr 0 v35) fun v40 =>
 bK (ldO 1 false h38 (chkV h38 v40)) fun v41 =>
 bK (nilO v34) fun v42 =>
 bK (fAddr 19 v42) fun v43 =>
 bK (ldO 1 false h38 (chkV h38 v43)) fun v44 =>
 bK (slcO Tryz.prog 47 h38 (chkV h38 v44) (some (chkV h38 v36)) none none) fun v45 =>
 mK (calM call 186 [(chkV h38 v41), (chkV h38 v37), (chkV h38 v45)] h38) fun v46 h47 =>
 nextK h38 h47 (
 bK (extO 0 v46) fun v48 =>
 bK (extO 1 v46) fun v49 =>
 mK (alM (NB.cells [(NV.int .i64 (.ofNat 0)), (NV.int .u64 (.ofNat 0)), (NV.int .u64 (.ofNat 0)), (NV.bool false)]) h47) fun v50 h51 =>
 mK (stM 4 (chkV h51 v50) (chkV h51 v48) h51) fun v52 h53 =>
 nextK h51 h53 (
 bK (nilO v34) fun v54 =>
 bK (fAddr 19 v54) fun v55 =>
 bK (ldO 1 false h53 (chkV h53 v55)) fun v56 =>
 bK (slcO Tryz.prog 47 h53 (chkV h53 v56) none (some (chkV h53 v36)) (some (chkV h53 v36))) fun v57 =>
 bK (ldO 4 true h53 (chkV h53 v50)) fun v58 =>
 mK (bslM 1 false [(0, 4)] [(NV.int .i64 (.ofNat 0)), (NV.int .u64 (.ofNat 0)), (NV.int .u64 (.ofNat 0)), (NV.bool false)] [(chkV h53 v58)] h53) fun v59 h60 =>
 mK (appM Tryz.prog 59 (chkV h60 v57) (chkV h60 v59) h60) fun v61 h62 =>
 nextK h60 h62 (
 bK (nilO v34) fun v63 =>
 bK (fAddr 19 v63) fun v64 =>
 mK (stM 1 (chkV h62 v64) (chkV h62 v61) h62) fun v65 h66 =>
 nextK h62 h66 (
 bK (neI v49 (NV.int .i64 (.ofNat 0))) fun v67 =>
 joinC 0 (fun h68 =>
 retC (NV.tuple []) h68) fun J69 =>
 condK v67 (
 mK (calM call 118 [v33, v49] h66) fun v70 h71 =>
 J69 h71) (
 J69 h66)))))) fun J39 =>
 condK v32 (
 bK (fAddr 1 v8) fun v72 =>
 bK (ldO 1 false h29 v72) fun v73 =>
 mK (bslM 1 false [(0, 1)] [(NV.int .i64 (.ofNat 0))] [v73] h29) fun v74 h75 =>
 J39 v0 v2 v8 v25 v74 h75) (
 J39 v0 v2 v8 v25 v28 h29)) (
 bK (fAddr 2 v10) fun v76 =>
 bK (ldO 1 false h15 v76) fun v77 =>
 bK (eqI v77 (NV.int .i64 (.ofNat 10))) fun v78 =>
 jK (fun v79 h80 =>
 jK (fun v82 h83 =>
 jK (fun v85 h86 =>
 bK (pickO v78 (NV.bool true) v85) fun v88 =>
 condK v88 (
 bK (ldO 9 true h86 v8) fun v89 =>
 bK (ldO 6 true h86 v10) fun v90 =>
 mK (calM call 187 [v0, v2, v89, v90] h86) fun v91 h92 =>
 retC (NV.tuple []) h92) (
 bK (fAddr 1 v10) fun v93 =>
 bK (ldO 1 false h86 v93) fun v94 =>
 bK (binO .eql v94 (NV.str 9 2148140020583875359593)) fun v95 =>
 joinC 6 (fun v96 v97 v98 v99 v100 v101 h102 =>
 condK v101 (
 bK (fAddr 4 v99) fun v104 =>
 bK (ldO 1 false h102 (chkV h102 v104)) fun v105 =>
 bK (fAddr 3 v98) fun v106 =>
 bK (ldO 1 false h102 (chkV h102 v106)) fun v107 =>
 bK (fAddr 4 v98) fun v108 =>
 bK (ldO 1 false h102 (chkV h102 v108)) fun v109 =>
 mK (calM call 48 [(chkV h102 v105)] h102) fun v110 h111 =>
 nextK h102 h111 (
 bK (ixS 1 v110 (NV.int .i64 (.ofNat 0))) fun v112 =>
 bK (ldO 1 false h111 (chkV h111 v112)) fun v113 =>
 bK (bldO [(0, 1), (1, 1), (2, 1)] [(NV.int .i64 (.ofNat 0)), (NV.int .u64 (.ofNat 0)), (NV.int .u64 (.ofNat 0)), (NV.bool false)] [v113, v107, v109]) fun v114 =>
 bK (ldO 1 false h111 (chkV h111 v106)) fun v115 =>
 sameK v115 v107 (
 bK (ldO 1 false h111 (chkV h111 v108)) fun v116 =>
 sameK v116 v109 (
 mK (calM call 188 [(chkV h111 v97), (chkV h111 v114)] h111) fun v117 h118 =>
 nextK h111 h118 (
 retC (NV.tuple []) h118))))) (
 bK (binO .eql v100 (NV.str 4 1886351972)) fun v119 =>
 condK v119 (
 mK (calM call 119 [v97] h102) fun v120 h121 =>
 retC (NV.tuple []) h121) (
 bK (binO .eql v100 (NV.str 6 127970252186995)) fun v122 =>
 condK v122 (
 mK (calM call 119 [v97] h102) fun v123 h124 =>
 bK (fldO false 1 1 v123) fun v125 =>
 mK (calM call 119 [v97] h124) fun v126 h127 =>
 mK (alM (NB.cells [(NV.int .i64 (.ofNat 0)), (NV.int .u64 (.ofNat 0)), (NV.int .u64 (.ofNat 0)), (NV.bool false)]) h127) fun v128 h129 =>
 mK (stM 4 v128 v126 h129) fun v130 h131 =>
 mK (calM call 119 [v97] h131) fun v132 h133 =>
 mK (alM (NB.cells [(NV.int .i64 (.ofNat 0)), (NV.int .u64 (.ofNat 0)), (NV.int .u64 (.ofNat 0)), (NV.bool false)]) h133) fun v134 h135 =>
 mK (stM 4 v134 v132 h135) fun v136 h137 =>
 bK (neI v125 (NV.int .u64 (.ofNat 0))) fun v138 =>
 condK v138 (
 bK (ldO 4 true h137 v134) fun v139 =>
 mK (calM call 188 [v97, v139] h137) fun v140 h141 =>
 retC (NV.tuple []) h141) (
 bK (ldO 4 true h137 v128) fun v142 =>
 mK (calM call 188 [v97, v142] h137) fun v143 h144 =>
 retC (NV.tuple []) h144)) (
 bK (binO .eql v100 (NV.str 9 2147129172513765158764)) fun v145 =>
 condK v145 (
 bK (nilO v97) fun v146 =>
 bK (fAddr 18 v146) fun v147 =>
 bK (ldO 1 false h102 (chkV h102 v147)) fun v148 =>
 bK (fAddr 1 v98) fun v149 =>
 bK (ldO 1 false h102 (chkV h102 v149)) fun v150 =>
 bK (ixS 4 v148 v150) fun v151 =>
 bK (ldO 4 true h102 (chkV h102 v151)) fun v152 =>
 mK (calM call 188 [(chkV h102 v97), (chkV h102 v152)] h102) fun v153 h154 =>
 nextK h102 h154 (
 retC (NV.tuple []) h154)) (
 bK (binO .eql v100 (NV.str 9 2147132550213485686636)) fun v155 =>
 condK v155 (
 bK (nilO v97) fun v156 =>
 bK (fAddr 18 v156) fun v157 =>
 bK (ldO 1 false h102 (chkV h102 v157)) fun v158 =>
 bK (fAddr 1 v98) fun v159 =>
 bK (ldO 1 false h102 (chkV h102 v159)) fun v160 =>
 mK (calM call 119 [(chkV h102 v97)] h102) fun v161 h162 =>
 nextK h102 h162 (
 bK (ixS 4 v158 v160) fun v163 =>
 bK (ldO 1 false h162 (chkV h162 v157)) fun v164 =>
 sameK v164 v158 (
 bK (ldO 1 false h162 (chkV h162 v159)) fun v165 =>
 sameK v165 v160 (
 mK (stM 4 (chkV h162 v163) (chkV h162 v161) h162) fun v166 h167 =>
 nextK h162 h167 (
 retC (NV.tuple []) h167))))) (
 bK (binO .eql v100 (NV.str 9 1870431670582819123052)) fun v168 =>
 condK v168 (
 bK (nilO v97) fun v169 =>
 bK (fAddr 18 v169) fun v170 =>
 bK (ldO 1 false h102 (chkV h102 v170)) fun v171 =>
 bK (fAddr 1 v98) fun v172 =>
 bK (ldO 1 false h102 (chkV h102 v172)) fun v173 =>
 bK (nilO v97) fun v174 =>
 bK (fAddr 19 v174) fun v175 =>
 bK (ldO 1 false h102 (chkV h102 v175)) fun v176 =>
 bK (nilO v97) fun v177 =>
 bK (fAddr 19 v177) fun v178 =>
 bK (ldO 1 false h102 (chkV h102 v178)) fun v179 =>
 bK (lenSl v179) fun v180 =>
 bK (subI v180 (NV.int .i64 (.ofNat 1))) fun v181 =>
 bK (ixS 4 v176 v181) fun v182 =>
 bK (ldO 4 true h102 (chkV h102 v182)) fun v183 =>
 bK (ixS 4 v171 v173) fun v184 =>
 mK (stM 4 (chkV h102 v184) (chkV h102 v183) h102) fun v185 h186 =>
 nextK h102 h186 (
 retC (NV.tuple []) h186)) (
 bK (binO .eql v100 (NV.str 10 549665068163523863866471)) fun v187 =>
 condK v187 (
 bK (nilO v96) fun v188 =>
 bK (fAddr 0 v188) fun v189 =>
 bK (ldO 1 false h102 (chkV h102 v189)) fun v190 =>
 bK (nilO v190) fun v191 =>
 bK (fAddr 3 v191) fun v192 =>
 bK (ldO 1 false h102 (chkV h102 v192)) fun v193 =>
 bK (nilO v97) fun v194 =>
 bK (fAddr 0 v194) fun v195 =>
 bK (fAddr 14 v195) fun v196 =>
 bK (ldO 1 false h102 (chkV h102 v196)) fun v197 =>
 bK (fAddr 1 v98) fun v198 =>
 bK (ldO 1 false h102 (chkV h102 v198)) fun v199 =>
 bK (ixS 1 v197 v199) fun v200 =>
 bK (ldO 1 false h102 (chkV h102 v200)) fun v201 =>
 bK (ixS 6 v193 v201) fun v202 =>
 bK (fAddr 2 v202) fun v203 =>
 bK (ldO 4 true h102 (chkV h102 v203)) fun v204 =>
 mK (calM call 188 [(chkV h102 v97), (chkV h102 v204)] h102) fun v205 h206 =>
 nextK h102 h206 (
 retC (NV.tuple []) h206)) (
 bK (binO .eql v100 (NV.str 10 549665932854652319001703)) fun v207 =>
 condK v207 (
 mK (calM call 119 [v97] h102) fun v208 h209 =>
 mK (alM (NB.cells [(NV.int .i64 (.ofNat 0)), (NV.int .u64 (.ofNat 0)), (NV.int .u64 (.ofNat 0)), (NV.bool false)]) h209) fun v210 h211 =>
 mK (stM 4 v210 v208 h211) fun v212 h213 =>
 bK (nilO v96) fun v214 =>
 bK (fAddr 0 v214) fun v215 =>
 bK (ldO 1 false h213 (chkV h213 v215)) fun v216 =>
 bK (nilO v97) fun v217 =>
 bK (fAddr 0 v217) fun v218 =>
 bK (fAddr 14 v218) fun v219 =>
 bK (ldO 1 false h213 (chkV h213 v219)) fun v220 =>
 bK (fAddr 1 v98) fun v221 =>
 bK (ldO 1 false h213 (chkV h213 v221)) fun v222 =>
 bK (ixS 1 v220 v222) fun v223 =>
 bK (ldO 1 false h213 (chkV h213 v223)) fun v224 =>
 bK (ldO 4 true h213 (chkV h213 v210)) fun v225 =>
 mK (calM call 189 [(chkV h213 v216), (chkV h213 v224), (chkV h213 v225)] h213) fun v226 h227 =>
 nextK h213 h227 (
 retC (NV.tuple []) h227)) (
 bK (binO .eql v100 (NV.str 8 7812748569666282866)) fun v228 =>
 condK v228 (
 bK (fAddr 1 v98) fun v229 =>
 bK (ldO 1 false h102 v229) fun v230 =>
 bK (bldO [(0, 1), (3, 1)] [(NV.int .i64 (.ofNat 0)), (NV.int .u64 (.ofNat 0)), (NV.int .u64 (.ofNat 0)), (NV.bool false)] [v230, (NV.bool true)]) fun v231 =>
 mK (calM call 188 [v97, v231] h102) fun v232 h233 =>
 retC (NV.tuple []) h233) (
 bK (binO .eql v100 (NV.str 11 131076170320788859115693426)) fun v234 =>
 condK v234 (
 mK (calM call 119 [v97] h102) fun v235 h236 =>
 bK (fldO false 1 3 v235) fun v237 =>
 mK (calM call 190 [v237] h236) fun v238 h239 =>
 mK (calM call 188 [v97, v238] h239) fun v240 h241 =>
 retC (NV.tuple []) h241) (
 bK (binO .eql v100 (NV.str 8 7164793138918614386)) fun v242 =>
 condK v242 (
 bK (nilO v97) fun v243 =>
 bK (fAddr 0 v243) fun v244 =>
 bK (fAddr 11 v244) fun v245 =>
 bK (ldO 1 false h102 (chkV h102 v245)) fun v246 =>
 bK (fAddr 1 v98) fun v247 =>
 bK (ldO 1 false h102 (chkV h102 v247)) fun v248 =>
 bK (ixS 1 v246 v248) fun v249 =>
 bK (ldO 1 false h102 (chkV h102 v249)) fun v250 =>
 bK (cvI .u64 v250) fun v251 =>
 bK (bldO [(0, 1), (1, 1)] [(NV.int .i64 (.ofNat 0)), (NV.int .u64 (.ofNat 0)), (NV.int .u64 (.ofNat 0)), (NV.bool false)] [(NV.int .i64 (.ofNat 112)), v251]) fun v252 =>
 mK (calM call 188 [(chkV h102 v97), (chkV h102 v252)] h102) fun v253 h254 =>
 nextK h102 h254 (
 retC (NV.tuple []) h254)) (
 bK (binO .eql v100 (NV.str 9 2074065927491391086948)) fun v255 =>
 condK v255 (
 bK (nilO v96) fun v256 =>
 bK (fAddr 0 v256) fun v257 =>
 bK (ldO 1 false h102 (chkV h102 v257)) fun v258 =>
 bK (nilO v97) fun v259 =>
 bK (fAddr 0 v259) fun v260 =>
 bK (fAddr 16 v260) fun v261 =>
 bK (ldO 1 false h102 (chkV h102 v261)) fun v262 =>
 bK (fAddr 1 v98) fun v263 =>
 bK (ldO 1 false h102 (chkV h102 v263)) fun v264 =>
 bK (ixS 1 v262 v264) fun v265 =>
 bK (ldO 1 false h102 (chkV h102 v265)) fun v266 =>
 mK (calM call 191 [(chkV h102 v258), (chkV h102 v266)] h102) fun v267 h268 =>
 nextK h102 h268 (
 retC (NV.tuple []) h268)) (
 bK (binO .eql v100 (NV.str 9 2074065927491591433317)) fun v269 =>
 condK v269 (
 bK (nilO v96) fun v270 =>
 bK (fAddr 0 v270) fun v271 =>
 bK (ldO 1 false h102 (chkV h102 v271)) fun v272 =>
 bK (nilO v97) fun v273 =>
 bK (fAddr 0 v273) fun v274 =>
 bK (fAddr 15 v274) fun v275 =>
 bK (ldO 1 false h102 (chkV h102 v275)) fun v276 =>
 bK (fAddr 1 v98) fun v277 =>
 bK (ldO 1 false h102 (chkV h102 v277)) fun v278 =>
 bK (ixS 1 v276 v278) fun v279 =>
 bK (ldO 1 false h102 (chkV h102 v279)) fun v280 =>
 mK (calM call 192 [(chkV h102 v272), (chkV h102 v280)] h102) fun v281 h282 =>
 nextK h102 h282 (
 retC (NV.tuple []) h282)) (
 bK (fAddr 1 v99) fun v283 =>
 bK (ldO 1 false h102 v283) fun v284 =>
 bK (slStr v284 none (some (NV.int .i64 (.ofNat 6)))) fun v285 =>
 bK (binO .eql v285 (NV.str 6 133532402673005)) fun v286 =>
 condK v286 (
 bK (ldO 9 true h102 v98) fun v287 =>
 bK (fAddr 1 v99) fun v288 =>
 bK (ldO 1 false h102 v288) fun v289 =>
 mK (calM call 193 [v96, v97, v287, v289] h102) fun v290 h291 =>
 retC (NV.tuple []) h291) (
 bK (ldO 9 true h102 v98) fun v292 =>
 bK (fAddr 1 v99) fun v293 =>
 bK (ldO 1 false h102 v293) fun v294 =>
 mK (calM call 194 [v96, v97, v292, v294] h102) fun v295 h296 =>
 retC (NV.tuple []) h296))))))))))))))) fun J103 =>
 condK v95 (
 J103 v0 v2 v8 v10 v94 v95 h86) (
 bK (binO .eql v94 (NV.str 9 2148140020583875491433)) fun v297 =>
 condK v297 (
 J103 v0 v2 v8 v10 v94 v297 h86) (
 bK (binO .eql v94 (NV.str 9 2148140020583875359590)) fun v298 =>
 condK v298 (
 J103 v0 v2 v8 v10 v94 v298 h86) (
 bK (binO .eql v94 (NV.str 9 2148140020583875491430)) fun v299 =>
 condK v299 (
 J103 v0 v2 v8 v10 v94 v299 h86) (
 bK (binO .eql v94 (NV.str 10 549923845269472192639350)) fun v300 =>
 J103 v0 v2 v8 v10 v94 v300 h86)))))) fun J87 => gK v78 false (
 bK (eqI v82 (NV.int .i64 (.ofNat 26))) fun v301 =>
 J87 v301 h83) (J87 (NV.tuple []) h83)) fun J84 => gK v78 false (
 bK (ldO 1 false h80 v79) fun v302 =>
 J84 v302 h80) (J84 (NV.tuple []) h80)) fun J81 => gK v78 false (
 bK (fAddr 2 v10) fun v303 =>
 J81 v303 h15) (J81 (NV.tuple []) h15)))
theorem e122 : ikB Tryz.prog 10 Tryz.f122 = S122 := by kernel_rfl
theorem k122 [Sig] (w0 : World) : SOK cW w0 122 S122 := okW Tryz.func122 (by kernel_rfl) e122
noncomputable def S123 (call : CallF) (N : Nat) (l : List NV) (h : H) : R :=
 uc l fun v0 l1 => un l1 (
 mK (boxM false v0 h) fun v2 h3 =>
 bK (fAddr 0 v2) fun v4 =>
 bK (ldO 1 false h3 v4) fun v5 =>
 mK (calM call 47 [v5] h3) fun v6 h7 =>
 mK (alM (NB.cells [(NV.int .i64 (.ofNat 0)), (NV.str 0 0), (NV.int .i64 (.ofNat 0)), (NV.str 0 0), (NV.str 0 0), (NV.bool false)]) h7) fun v8 h9 =>
 mK (stM 6 v8 v6 h9) fun v10 h11 =>
 bK (fAddr 0 v8) fun v12 =>
 bK (ldO 1 false h11 v12) fun v13 =>
 bK (ltI v13 (NV.int .i64 (.ofNat 0))) fun v14 =>
 condK v14 (
 retC (NV.bool false) h11) (
 bK (fAddr 2 v8) fun v15 =>
 bK (ldO 1 false h11 v15) fun v16 =>
 bK (neI v16 (NV.int .i64 (.ofNat 1))) fun v17 =>
 jK (fun v18 h19 =>
 jK (fun v21 h22 =>
 jK (fun v24 h25 =>
 jK (fun v27 h28 =>
 jK (fun v30 h31 =>
 jK (fun v33 h34 =>
 jK (fun v36 h37 =>
 jK (fun v39 h40 =>
 jK (fun v42 h43 =>
 jK (fun v45 h46 =>
 jK (fun v48 h49 =>
 jK (fun v51 h52 =>
 jK (fun v54 h55 =>
 jK (fun v57 h58 =>
 bK (pickO v17 v57 (NV.bool false)) fun v60 =>
 condK v60 (
 retC (NV.bool false) h58) (
 bK (fAddr 1 v2) fun v61 =>
 bK (ldO 1 false h58 v61) fun v62 =>
 mK (calM call 39 [v62] h58) fun v63 h64 =>
 bK (fAddr 2 v2) fun v65 =>
 bK (ldO 1 false h64 v65) fun v66 =>
 mK (calM call 39 [v66] h64) fun v67 h68 =>
 bK (fAddr 2 v2) fun v69 =>
 bK (ldO 1 false h68 v69) fun v70 =>
 mK (calM call 44 [v70] h68) fun v71 h72 =>
 bK (fAddr 1 v2) fun v73 =>
 bK (ldO 1 false h72 v73) fun v74 =>
 mK (calM call 67 [v74] h72) fun v75 h76 =>
 bK (fAddr 5 v2) fun v77 =>
 bK (ldO 1 false h76 v77) fun v78 =>
 mK (calM call 37 [v78] h76) fun v79 h80 =>
 bK (fAddr 0 v2) fun v81 =>
 bK (ldO 1 false h80 v81) fun v82 =>
 bK (bldO [(0, 1)] [(NV.int .i64 (.ofNat 0)), (NV.int .i64 (.ofNat 0)), (NV.int .i64 (.ofNat 0)), (NV.int .u64 (.ofNat 0)), (NV.int .u64 (.ofNat 0)), NV.nslice, NV.nslice, NV.nslice, (NV.bool false)] [v82]) fun v83 =>
 mK (alM (NB.cells [(NV.int .i64 (.ofNat 0)), (NV.int .i64 (.ofNat 0)), (NV.int .i64 (.ofNat 0)), (NV.int .u64 (.ofNat 0)), (NV.int .u64 (.ofNat 0)), NV.nslice, NV.nslice, NV.nslice, (NV.bool false)]) h80) fun v84 h85 =>
 mK (stM 9 v84 v83 h85) fun v86 h87 =>
 bK (fAddr 5 v2) fun v88 =>
 bK (ldO 1 false h87 v88) fun v89 =>
 bK (lenSl v89) fun v90 =>
 bK (fAddr 2 v8) fun v91 =>
 bK (ldO 1 false h87 v91) fun v92 =>
 bK (eqI v92 (NV.int .i64 (.ofNat 0))) fun v93 =>
 joinC 11 (fun v94 v95 v96 v97 v98 v99 v100 v101 v102 v103 v104 h105 =>
 joinC 3 (fun v107 v108 v109 h110 =>
 jK (fun v112 h113 =>
 jK (fun v115 h116 =>
 jK (fun v118 h119 =>
 jK (fun v121 h122 =>
 jK (fun v124 h125 =>
 bK (pickO v109 v124 (NV.bool false)) fun v127 =>
 jK (fun v128 h129 =>
 jK (fun v131 h132 =>
 jK (fun v134 h135 =>
 jK (fun v137 h138 =>
 jK (fun v140 h141 =>
 bK (pickO v127 v140 (NV.bool false)) fun v143 =>
 jK (fun v144 h145 =>
 jK (fun v147 h148 =>
 jK (fun v150 h151 =>
 jK (fun v153 h154 =>
 jK (fun v156 h157 =>
 bK (pickO v143 v156 (NV.bool false)) fun v159 =>
 jK (fun v160 h161 =>
 jK (fun v163 h164 =>
 jK (fun v166 h167 =>
 jK (fun v169 h170 =>
 jK (fun v172 h173 =>
 bK (pickO v159 v172 (NV.bool false)) fun v175 =>
 retC v175 h173) fun J174 => gK v159 true (
 bK (eqI v163 v169) fun v176 =>
 J174 v176 h170) (J174 (NV.tuple []) h170)) fun J171 => gK v159 true (
 bK (ldO 1 false h167 v166) fun v177 =>
 J171 v177 h167) (J171 (NV.tuple []) h167)) fun J168 => gK v159 true (
 bK (fAddr 4 v108) fun v178 =>
 J168 v178 h164) (J168 (NV.tuple []) h164)) fun J165 => gK v159 true (
 bK (ldO 1 false h161 v160) fun v179 =>
 J165 v179 h161) (J165 (NV.tuple []) h161)) fun J162 => gK v159 true (
 bK (fAddr 4 v107) fun v180 =>
 J162 v180 h157) (J162 (NV.tuple []) h157)) fun J158 => gK v143 true (
 bK (eqI v147 v153) fun v181 =>
 J158 v181 h154) (J158 (NV.tuple []) h154)) fun J155 => gK v143 true (
 bK (ldO 1 false h151 v150) fun v182 =>
 J155 v182 h151) (J155 (NV.tuple []) h151)) fun J152 => gK v143 true (
 bK (fAddr 3 v108) fun v183 =>
 J152 v183 h148) (J152 (NV.tuple []) h148)) fun J149 => gK v143 true (
 bK (ldO 1 false h145 v144) fun v184 =>
 J149 v184 h145) (J149 (NV.tuple []) h145)) fun J146 => gK v143 true (
 bK (fAddr 3 v107) fun v185 =>
 J146 v185 h141) (J146 (NV.tuple []) h141)) fun J142 => gK v127 true (
 bK (eqI v131 v137) fun v186 =>
 J142 v186 h138) (J142 (NV.tuple []) h138)) fun J139 => gK v127 true (
 bK (ldO 1 false h135 v134) fun v187 =>
 J139 v187 h135) (J139 (NV.tuple []) h135)) fun J136 => gK v127 true (
 bK (fAddr 2 v108) fun v188 =>
 J136 v188 h132) (J136 (NV.tuple []) h132)) fun J133 => gK v127 true (
 bK (ldO 1 false h129 v128) fun v189 =>
 J133 v189 h129) (J133 (NV.tuple []) h129)) fun J130 => gK v127 true (
 bK (fAddr 2 v107) fun v190 =>
 J130 v190 h125) (J130 (NV.tuple []) h125)) fun J126 => gK v109 true (
 bK (eqI v115 v121) fun v191 =>
 J126 v191 h122) (J126 (NV.tuple []) h122)) fun J123 => gK v109 true (
 bK (ldO 1 false h119 v118) fun v192 =>
 J123 v192 h119) (J123 (NV.tuple []) h119)) fun J120 => gK v109 true (
 bK (fAddr 1 v108) fun v193 =>
 J120 v193 h116) (J120 (NV.tuple []) h116)) fun J117 => gK v109 true (
 bK (ldO 1 false h113 v112) fun v194 =>
 J117 v194 h113) (J117 (NV.tuple []) h113)) fun J114 => gK v109 true (
 bK (fAddr 1 v107) fun v195 =>
 J114 v195 h110) (J114 (NV.tuple []) h110)) fun J111 =>
 condK v104 (
 bK (eqI v101 (NV.int .i64 (.ofNat 0))) fun v196 =>
 J111 v94 v100 v196 h105) (
 bK (eqI v103 (NV.int .i64 (.ofNat 1))) fun v197 =>
 condK v197 (
 bK (eqI v101 (NV.int .i64 (.ofNat 0))) fun v198 =>
 jK (fun v199 h200 =>
 jK (fun v202 h203 =>
 jK (fun v205 h206 =>
 jK (fun v208 h209 =>
 jK (fun v211 h212 =>
 jK (fun v214 h215 =>
 jK (fun v217 h218 =>
 jK (fun v220 h221 =>
 jK (fun v223 h224 =>
 jK (fun v226 h227 =>
 jK (fun v229 h230 =>
 jK (fun v232 h233 =>
 jK (fun v235 h236 =>
 jK (fun v238 h239 =>
 jK (fun v241 h242 =>
 jK (fun v244 h245 =>
 jK (fun v247 h248 =>
 jK (fun v250 h251 =>
 jK (fun v253 h254 =>
 jK (fun v256 h257 =>
 jK (fun v259 h260 =>
 jK (fun v262 h263 =>
 jK (fun v265 h266 =>
 jK (fun v268 h269 =>
 bK (pickO v198 v268 (NV.bool false)) fun v271 =>
 jK (fun v272 h273 =>
 jK (fun v275 h276 =>
 jK (fun v278 h279 =>
 jK (fun v281 h282 =>
 jK (fun v284 h285 =>
 jK (fun v287 h288 =>
 jK (fun v290 h291 =>
 jK (fun v293 h294 =>
 bK (pickO v271 v293 (NV.bool false)) fun v296 =>
 jK (fun v297 h298 =>
 jK (fun v300 h301 =>
 jK (fun v303 h304 =>
 jK (fun v306 h307 =>
 jK (fun v309 h310 =>
 jK (fun v312 h313 =>
 jK (fun v315 h316 =>
 jK (fun v318 h319 =>
 bK (pickO v296 v318 (NV.bool false)) fun v321 =>
 bK (fAddr 1 v94) fun v322 =>
 bK (ldO 1 false h319 v322) fun v323 =>
 bK (fAddr 1 v100) fun v324 =>
 mK (stM 1 v324 v323 h319) fun v325 h326 =>
 bK (fAddr 2 v94) fun v327 =>
 bK (ldO 1 false h326 v327) fun v328 =>
 bK (fAddr 2 v100) fun v329 =>
 mK (stM 1 v329 v328 h326) fun v330 h331 =>
 J111 v94 v100 v321 h331) fun J320 => gK v296 true (
 bK (pickO v303 (NV.bool true) v315) fun v332 =>
 J320 v332 h316) (J320 (NV.tuple []) h316)) fun J317 => gK v303 false (
 bK (eqI v312 (NV.int .i64 (.ofNat 0))) fun v333 =>
 J317 v333 h313) (J317 (NV.tuple []) h313)) fun J314 => gK v303 false (
 bK (lenSl v309) fun v334 =>
 J314 v334 h310) (J314 (NV.tuple []) h310)) fun J311 => gK v303 false (
 bK (ldO 1 false h307 v306) fun v335 =>
 J311 v335 h307) (J311 (NV.tuple []) h307)) fun J308 => gK v303 false (
 bK (fAddr 7 v94) fun v336 =>
 J308 v336 h304) (J308 (NV.tuple []) h304)) fun J305 => gK v296 true (
 J305 v300 h301) (J305 (NV.tuple []) h301)) fun J302 => gK v296 true (
 bK (ldO 1 false h298 v297) fun v337 =>
 J302 v337 h298) (J302 (NV.tuple []) h298)) fun J299 => gK v296 true (
 bK (fAddr 8 v94) fun v338 =>
 J299 v338 h294) (J299 (NV.tuple []) h294)) fun J295 => gK v271 true (
 bK (pickO v281 (NV.bool true) v290) fun v339 =>
 J295 v339 h291) (J295 (NV.tuple []) h291)) fun J292 => gK v281 false (
 bK (notO v287) fun v340 =>
 J292 v340 h288) (J292 (NV.tuple []) h288)) fun J289 => gK v281 false (
 bK (ldO 1 false h285 v284) fun v341 =>
 J289 v341 h285) (J289 (NV.tuple []) h285)) fun J286 => gK v281 false (
 bK (fAddr 8 v94) fun v342 =>
 J286 v342 h282) (J286 (NV.tuple []) h282)) fun J283 => gK v271 true (
 J283 v278 h279) (J283 (NV.tuple []) h279)) fun J280 => gK v271 true (
 bK (eqI v275 (NV.int .i64 (.ofNat 4))) fun v343 =>
 J280 v343 h276) (J280 (NV.tuple []) h276)) fun J277 => gK v271 true (
 bK (ldO 1 false h273 v272) fun v344 =>
 J277 v344 h273) (J277 (NV.tuple []) h273)) fun J274 => gK v271 true (
 bK (fAddr 0 v94) fun v345 =>
 J274 v345 h269) (J274 (NV.tuple []) h269)) fun J270 => gK v198 true (
 bK (pickO v247 (NV.bool true) v265) fun v346 =>
 J270 v346 h266) (J270 (NV.tuple []) h266)) fun J267 => gK v247 false (
 bK (pickO v259 v262 (NV.bool false)) fun v347 =>
 J267 v347 h263) (J267 (NV.tuple []) h263)) fun J264 => gK v259 true (
 J264 v96 h260) (J264 (NV.tuple []) h260)) fun J261 => gK v247 false (
 J261 v256 h257) (J261 (NV.tuple []) h257)) fun J258 => gK v247 false (
 bK (eqI v253 (NV.int .i64 (.ofNat 2))) fun v348 =>
 J258 v348 h254) (J258 (NV.tuple []) h254)) fun J255 => gK v247 false (
 bK (ldO 1 false h251 v250) fun v349 =>
 J255 v349 h251) (J255 (NV.tuple []) h251)) fun J252 => gK v247 false (
 bK (fAddr 1 v94) fun v350 =>
 J252 v350 h248) (J252 (NV.tuple []) h248)) fun J249 => gK v198 true (
 J249 v244 h245) (J249 (NV.tuple []) h245)) fun J246 => gK v198 true (
 bK (pickO v223 (NV.bool true) v241) fun v351 =>
 J246 v351 h242) (J246 (NV.tuple []) h242)) fun J243 => gK v223 false (
 bK (pickO v235 v238 (NV.bool false)) fun v352 =>
 J243 v352 h239) (J243 (NV.tuple []) h239)) fun J240 => gK v235 true (
 J240 v97 h236) (J240 (NV.tuple []) h236)) fun J237 => gK v223 false (
 J237 v232 h233) (J237 (NV.tuple []) h233)) fun J234 => gK v223 false (
 bK (eqI v229 (NV.int .i64 (.ofNat 1))) fun v353 =>
 J234 v353 h230) (J234 (NV.tuple []) h230)) fun J231 => gK v223 false (
 bK (ldO 1 false h227 v226) fun v354 =>
 J231 v354 h227) (J231 (NV.tuple []) h227)) fun J228 => gK v223 false (
 bK (fAddr 1 v94) fun v355 =>
 J228 v355 h224) (J228 (NV.tuple []) h224)) fun J225 => gK v198 true (
 J225 v220 h221) (J225 (NV.tuple []) h221)) fun J222 => gK v198 true (
 bK (pickO v208 v217 (NV.bool false)) fun v356 =>
 J222 v356 h218) (J222 (NV.tuple []) h218)) fun J219 => gK v208 true (
 bK (eqI v214 (NV.int .i64 (.ofNat 0))) fun v357 =>
 J219 v357 h215) (J219 (NV.tuple []) h215)) fun J216 => gK v208 true (
 bK (ldO 1 false h212 v211) fun v358 =>
 J216 v358 h212) (J216 (NV.tuple []) h212)) fun J213 => gK v208 true (
 bK (fAddr 2 v94) fun v359 =>
 J213 v359 h209) (J213 (NV.tuple []) h209)) fun J210 => gK v198 true (
 J210 v205 h206) (J210 (NV.tuple []) h206)) fun J207 => gK v198 true (
 bK (eqI v202 (NV.int .i64 (.ofNat 0))) fun v360 =>
 J207 v360 h203) (J207 (NV.tuple []) h203)) fun J204 => gK v198 true (
 bK (ldO 1 false h200 v199) fun v361 =>
 J204 v361 h200) (J204 (NV.tuple []) h200)) fun J201 => gK v198 true (
 bK (fAddr 1 v94) fun v362 =>
 J201 v362 h105) (J201 (NV.tuple []) h105)) (
 bK (eqI v103 (NV.int .i64 (.ofNat 2))) fun v363 =>
 joinC 10 (fun v364 v365 v366 v367 v368 v369 v370 v371 v372 v373 h374 =>
 condK v373 (
 jK (fun v376 h377 =>
 jK (fun v379 h380 =>
 bK (pickO v365 v379 (NV.bool false)) fun v382 =>
 bK (fAddr 1 v364) fun v383 =>
 bK (ldO 1 false h380 v383) fun v384 =>
 bK (fAddr 1 v369) fun v385 =>
 mK (stM 1 v385 v384 h380) fun v386 h387 =>
 J111 v364 v369 v382 h387) fun J381 => gK v365 true (
 bK (eqI v376 (NV.int .i64 (.ofNat 0))) fun v388 =>
 J381 v388 h377) (J381 (NV.tuple []) h377)) fun J378 => gK v365 true (
 J378 v370 h374) (J378 (NV.tuple []) h374)) (
 bK (eqI v372 (NV.int .i64 (.ofNat 3))) fun v389 =>
 condK v389 (
 jK (fun v390 h391 =>
 jK (fun v393 h394 =>
 jK (fun v396 h397 =>
 bK (pickO v365 v396 (NV.bool false)) fun v399 =>
 bK (fAddr 1 v364) fun v400 =>
 bK (ldO 1 false h397 v400) fun v401 =>
 bK (fAddr 1 v369) fun v402 =>
 mK (stM 1 v402 v401 h397) fun v403 h404 =>
 J111 v364 v369 v399 h404) fun J398 => gK v365 true (
 mK (calM call 195 [v393, (NV.int .i64 (.ofNat 4294967296))] h394) fun v405 h406 =>
 J398 v405 h406) (J398 (NV.tuple []) h394)) fun J395 => gK v365 true (
 bK (ldO 1 false h391 v390) fun v407 =>
 J395 v407 h391) (J395 (NV.tuple []) h391)) fun J392 => gK v365 true (
 bK (fAddr 5 v364) fun v408 =>
 J392 v408 h374) (J392 (NV.tuple []) h374)) (
 bK (eqI v372 (NV.int .i64 (.ofNat 5))) fun v409 =>
 joinC 10 (fun v410 v411 v412 v413 v414 v415 v416 v417 v418 v419 h420 =>
 condK v419 (
 jK (fun v422 h423 =>
 bK (pickO v411 v422 (NV.bool false)) fun v425 =>
 jK (fun v426 h427 =>
 jK (fun v429 h430 =>
 bK (pickO v425 v429 (NV.bool false)) fun v432 =>
 bK (fAddr 1 v410) fun v433 =>
 bK (ldO 1 false h430 v433) fun v434 =>
 bK (fAddr 1 v415) fun v435 =>
 mK (stM 1 v435 v434 h430) fun v436 h437 =>
 bK (fAddr 2 v410) fun v438 =>
 bK (ldO 1 false h437 v438) fun v439 =>
 bK (fAddr 2 v415) fun v440 =>
 mK (stM 1 v440 v439 h437) fun v441 h442 =>
 J111 v410 v415 v432 h442) fun J431 => gK v425 true (
 bK (eqI v426 (NV.int .i64 (.ofNat 0))) fun v443 =>
 J431 v443 h427) (J431 (NV.tuple []) h427)) fun J428 => gK v425 true (
 J428 v416 h423) (J428 (NV.tuple []) h423)) fun J424 => gK v411 true (
 J424 v412 h420) (J424 (NV.tuple []) h420)) (
 bK (eqI v418 (NV.int .i64 (.ofNat 26))) fun v444 =>
 condK v444 (
 jK (fun v445 h446 =>
 bK (pickO v411 v445 (NV.bool false)) fun v448 =>
 jK (fun v449 h450 =>
 jK (fun v452 h453 =>
 bK (pickO v448 v452 (NV.bool false)) fun v455 =>
 jK (fun v456 h457 =>
 jK (fun v459 h460 =>
 jK (fun v462 h463 =>
 bK (pickO v455 v462 (NV.bool false)) fun v465 =>
 bK (fAddr 1 v410) fun v466 =>
 bK (ldO 1 false h463 v466) fun v467 =>
 bK (fAddr 1 v415) fun v468 =>
 mK (stM 1 v468 v467 h463) fun v469 h470 =>
 bK (fAddr 2 v410) fun v471 =>
 bK (ldO 1 false h470 v471) fun v472 =>
 bK (fAddr 2 v415) fun v473 =>
 mK (stM 1 v473 v472 h470) fun v474 h475 =>
 J111 v410 v415 v465 h475) fun J464 => gK v455 true (
 mK (calM call 195 [v459, (NV.int .i64 (.ofNat 256))] h460) fun v476 h477 =>
 J464 v476 h477) (J464 (NV.tuple []) h460)) fun J461 => gK v455 true (
 bK (ldO 1 false h457 v456) fun v478 =>
 J461 v478 h457) (J461 (NV.tuple []) h457)) fun J458 => gK v455 true (
 bK (fAddr 5 v410) fun v479 =>
 J458 v479 h453) (J458 (NV.tuple []) h453)) fun J454 => gK v448 true (
 bK (eqI v449 (NV.int .i64 (.ofNat 1))) fun v480 =>
 J454 v480 h450) (J454 (NV.tuple []) h450)) fun J451 => gK v448 true (
 J451 v416 h446) (J451 (NV.tuple []) h446)) fun J447 => gK v411 true (
 J447 v412 h420) (J447 (NV.tuple []) h420)) (
 bK (eqI v418 (NV.int .i64 (.ofNat 6))) fun v481 =>
 condK v481 (
 J111 v410 v415 v414 h420) (
 bK (eqI v418 (NV.int .i64 (.ofNat 12))) fun v482 =>
 joinC 7 (fun v483 v484 v485 v486 v487 v488 v489 h490 =>
 condK v489 (
 bK (fAddr 3 v483) fun v492 =>
 bK (ldO 1 false h490 v492) fun v493 =>
 bK (ltI v493 (NV.int .u64 (.ofNat 4294967296))) fun v494 =>
 jK (fun v495 h496 =>
 jK (fun v498 h499 =>
 bK (pickO v494 v498 (NV.bool false)) fun v501 =>
 bK (fAddr 3 v483) fun v502 =>
 bK (ldO 1 false h499 v502) fun v503 =>
 bK (fAddr 3 v485) fun v504 =>
 mK (stM 1 v504 v503 h499) fun v505 h506 =>
 J111 v483 v485 v501 h506) fun J500 => gK v494 true (
 bK (eqI v495 (NV.int .i64 (.ofNat 0))) fun v507 =>
 J500 v507 h496) (J500 (NV.tuple []) h496)) fun J497 => gK v494 true (
 J497 v486 h490) (J497 (NV.tuple []) h490)) (
 bK (eqI v488 (NV.int .i64 (.ofNat 13))) fun v508 =>
 joinC 7 (fun v509 v510 v511 v512 v513 v514 v515 h516 =>
 condK v515 (
 bK (eqI v512 (NV.int .i64 (.ofNat 0))) fun v518 =>
 bK (fAddr 3 v509) fun v519 =>
 bK (ldO 1 false h516 v519) fun v520 =>
 bK (fAddr 3 v511) fun v521 =>
 mK (stM 1 v521 v520 h516) fun v522 h523 =>
 J111 v509 v511 v518 h523) (
 bK (eqI v514 (NV.int .i64 (.ofNat 23))) fun v524 =>
 condK v524 (
 bK (eqI v512 (NV.int .i64 (.ofNat 0))) fun v525 =>
 bK (fAddr 3 v509) fun v526 =>
 bK (ldO 1 false h516 v526) fun v527 =>
 bK (fAddr 3 v511) fun v528 =>
 mK (stM 1 v528 v527 h516) fun v529 h530 =>
 bK (fAddr 4 v509) fun v531 =>
 bK (ldO 1 false h530 v531) fun v532 =>
 bK (fAddr 4 v511) fun v533 =>
 mK (stM 1 v533 v532 h530) fun v534 h535 =>
 J111 v509 v511 v525 h535) (
 bK (eqI v514 (NV.int .i64 (.ofNat 16))) fun v536 =>
 condK v536 (
 jK (fun v537 h538 =>
 jK (fun v540 h541 =>
 bK (pickO v510 v540 (NV.bool false)) fun v543 =>
 bK (fAddr 1 v509) fun v544 =>
 bK (ldO 1 false h541 v544) fun v545 =>
 bK (fAddr 1 v511) fun v546 =>
 mK (stM 1 v546 v545 h541) fun v547 h548 =>
 J111 v509 v511 v543 h548) fun J542 => gK v510 true (
 bK (eqI v537 (NV.int .i64 (.ofNat 0))) fun v549 =>
 J542 v549 h538) (J542 (NV.tuple []) h538)) fun J539 => gK v510 true (
 J539 v512 h516) (J539 (NV.tuple []) h516)) (
 bK (eqI v514 (NV.int .i64 (.ofNat 24))) fun v550 =>
 condK v550 (
 bK (eqI v512 (NV.int .i64 (.ofNat 16))) fun v551 =>
 jK (fun v552 h553 =>
 jK (fun v555 h556 =>
 jK (fun v558 h559 =>
 bK (pickO v551 v558 (NV.bool false)) fun v561 =>
 J111 v509 v511 v561 h559) fun J560 => gK v551 true (
 mK (calM call 195 [v555, (NV.int .i64 (.ofNat 256))] h556) fun v562 h563 =>
 J560 v562 h563) (J560 (NV.tuple []) h556)) fun J557 => gK v551 true (
 bK (ldO 1 false h553 v552) fun v564 =>
 J557 v564 h553) (J557 (NV.tuple []) h553)) fun J554 => gK v551 true (
 bK (fAddr 5 v509) fun v565 =>
 J554 v565 h516) (J554 (NV.tuple []) h516)) (
 bK (eqI v514 (NV.int .i64 (.ofNat 25))) fun v566 =>
 condK v566 (
 bK (fAddr 1 v509) fun v567 =>
 bK (ldO 1 false h516 v567) fun v568 =>
 bK (geI v568 (NV.int .i64 (.ofNat 0))) fun v569 =>
 jK (fun v570 h571 =>
 jK (fun v573 h574 =>
 jK (fun v576 h577 =>
 bK (pickO v569 v576 (NV.bool false)) fun v579 =>
 jK (fun v580 h581 =>
 jK (fun v583 h584 =>
 bK (pickO v579 v583 (NV.bool false)) fun v586 =>
 bK (fAddr 1 v509) fun v587 =>
 bK (ldO 1 false h584 v587) fun v588 =>
 bK (fAddr 1 v511) fun v589 =>
 mK (stM 1 v589 v588 h584) fun v590 h591 =>
 J111 v509 v511 v586 h591) fun J585 => gK v579 true (
 bK (eqI v580 (NV.int .i64 (.ofNat 0))) fun v592 =>
 J585 v592 h581) (J585 (NV.tuple []) h581)) fun J582 => gK v579 true (
 J582 v512 h577) (J582 (NV.tuple []) h577)) fun J578 => gK v569 true (
 bK (ltI v573 (NV.int .i64 (.ofNat 256))) fun v593 =>
 J578 v593 h574) (J578 (NV.tuple []) h574)) fun J575 => gK v569 true (
 bK (ldO 1 false h571 v570) fun v594 =>
 J575 v594 h571) (J575 (NV.tuple []) h571)) fun J572 => gK v569 true (
 bK (fAddr 1 v509) fun v595 =>
 J572 v595 h516) (J572 (NV.tuple []) h516)) (
 J111 v509 v511 v513 h516)))))) fun J517 =>
 condK v508 (
 J517 v483 v484 v485 v486 v487 v488 v508 h490) (
 bK (eqI v488 (NV.int .i64 (.ofNat 15))) fun v596 =>
 J517 v483 v484 v485 v486 v487 v488 v596 h490))) fun J491 =>
 condK v482 (
 J491 v410 v413 v415 v416 v417 v418 v482 h420) (
 bK (eqI v418 (NV.int .i64 (.ofNat 14))) fun v597 =>
 J491 v410 v413 v415 v416 v417 v418 v597 h420))))) fun J421 =>
 condK v409 (
 J421 v364 v365 v366 v367 v368 v369 v370 v371 v372 v409 h374) (
 bK (eqI v372 (NV.int .i64 (.ofNat 20))) fun v598 =>
 condK v598 (
 J421 v364 v365 v366 v367 v368 v369 v370 v371 v372 v598 h374) (
 bK (eqI v372 (NV.int .i64 (.ofNat 22))) fun v599 =>
 condK v599 (
 J421 v364 v365 v366 v367 v368 v369 v370 v371 v372 v599 h374) (
 bK (eqI v372 (NV.int .i64 (.ofNat 10))) fun v600 =>
 J421 v364 v365 v366 v367 v368 v369 v370 v371 v372 v600 h374)))))) fun J375 =>
 condK v363 (
 J375 v94 v95 v96 v98 v99 v100 v101 v102 v103 v363 h105) (
 bK (eqI v103 (NV.int .i64 (.ofNat 4))) fun v601 =>
 condK v601 (
 J375 v94 v95 v96 v98 v99 v100 v101 v102 v103 v601 h105) (
 bK (eqI v103 (NV.int .i64 (.ofNat 7))) fun v602 =>
 condK v602 (
 J375 v94 v95 v96 v98 v99 v100 v101 v102 v103 v602 h105) (
 bK (eqI v103 (NV.int .i64 (.ofNat 8))) fun v603 =>
 condK v603 (
 J375 v94 v95 v96 v98 v99 v100 v101 v102 v103 v603 h105) (
 bK (eqI v103 (NV.int .i64 (.ofNat 9))) fun v604 =>
 condK v604 (
 J375 v94 v95 v96 v98 v99 v100 v101 v102 v103 v604 h105) (
 bK (eqI v103 (NV.int .i64 (.ofNat 17))) fun v605 =>
 condK v605 (
 J375 v94 v95 v96 v98 v99 v100 v101 v102 v103 v605 h105) (
 bK (eqI v103 (NV.int .i64 (.ofNat 18))) fun v606 =>
 condK v606 (
 J375 v94 v95 v96 v98 v99 v100 v101 v102 v103 v606 h105) (
 bK (eqI v103 (NV.int .i64 (.ofNat 21))) fun v607 =>
 J375 v94 v95 v96 v98 v99 v100 v101 v102 v103 v607 h105)))))))))) fun J106 =>
 condK v93 (
 J106 v2 v63 v67 v71 v75 v79 v84 v90 (NV.bool false) v92 v93 h87) (
 bK (eqI v92 (NV.int .i64 (.ofNat 11))) fun v608 =>
 condK v608 (
 J106 v2 v63 v67 v71 v75 v79 v84 v90 (NV.bool false) v92 v608 h87) (
 bK (eqI v92 (NV.int .i64 (.ofNat 19))) fun v609 =>
 J106 v2 v63 v67 v71 v75 v79 v84 v90 (NV.bool false) v92 v609 h87)))) fun J59 => gK v17 true (
 bK (pickO v48 (NV.bool true) v54) fun v610 =>
 J59 v610 h55) (J59 (NV.tuple []) h55)) fun J56 => gK v48 false (
 bK (ldO 1 false h52 v51) fun v611 =>
 J56 v611 h52) (J56 (NV.tuple []) h52)) fun J53 => gK v48 false (
 bK (fAddr 8 v2) fun v612 =>
 J53 v612 h49) (J53 (NV.tuple []) h49)) fun J50 => gK v17 true (
 J50 v45 h46) (J50 (NV.tuple []) h46)) fun J47 => gK v17 true (
 bK (pickO v30 (NV.bool true) v42) fun v613 =>
 J47 v613 h43) (J47 (NV.tuple []) h43)) fun J44 => gK v30 false (
 bK (gtI v39 (NV.int .i64 (.ofNat 0))) fun v614 =>
 J44 v614 h40) (J44 (NV.tuple []) h40)) fun J41 => gK v30 false (
 bK (lenSl v36) fun v615 =>
 J41 v615 h37) (J41 (NV.tuple []) h37)) fun J38 => gK v30 false (
 bK (ldO 1 false h34 v33) fun v616 =>
 J38 v616 h34) (J38 (NV.tuple []) h34)) fun J35 => gK v30 false (
 bK (fAddr 7 v2) fun v617 =>
 J35 v617 h31) (J35 (NV.tuple []) h31)) fun J32 => gK v17 true (
 J32 v27 h28) (J32 (NV.tuple []) h28)) fun J29 => gK v17 true (
 bK (gtI v24 (NV.int .i64 (.ofNat 0))) fun v618 =>
 J29 v618 h25) (J29 (NV.tuple []) h25)) fun J26 => gK v17 true (
 bK (lenSl v21) fun v619 =>
 J26 v619 h22) (J26 (NV.tuple []) h22)) fun J23 => gK v17 true (
 bK (ldO 1 false h19 v18) fun v620 =>
 J23 v620 h19) (J23 (NV.tuple []) h19)) fun J20 => gK v17 true (
 bK (fAddr 6 v2) fun v621 =>
 J20 v621 h11) (J20 (NV.tuple []) h11)))
theorem e123 : ikB Tryz.prog 10 Tryz.f123 = S123 := by kernel_rfl
theorem k123 [Sig] (w0 : World) : SOK cW w0 123 S123 := okW Tryz.func123 (by kernel_rfl) e123
noncomputable def S124 (call : CallF) (N : Nat) (l : List NV) (h : H) : R :=
 uc l fun v0 l1 => un l1 (
 mK (calM call 47 [v0] h) fun v2 h3 =>
 mK (alM (NB.cells [(NV.int .i64 (.ofNat 0)), (NV.str 0 0), (NV.int .i64 (.ofNat 0)), (NV.str 0 0), (NV.str 0 0), (NV.bool false)]) h3) fun v4 h5 =>
 mK (stM 6 v4 v2 h5) fun v6 h7 =>
 bK (fAddr 0 v4) fun v8 =>
 bK (ldO 1 false h7 v8) fun v9 =>
 bK (ltI v9 (NV.int .i64 (.ofNat 0))) fun v10 =>
 condK v10 (
 retC (NV.int .i64 (.ofNat 0)) h7) (
 bK (fAddr 2 v4) fun v11 =>
 bK (ldO 1 false h7 v11) fun v12 =>
 joinC 0 (fun h13 =>
 retC (NV.int .i64 (.ofNat 0)) h13) fun J14 =>
 bK (eqI v12 (NV.int .i64 (.ofNat 24))) fun v15 =>
 condK v15 (
 retC (NV.int .i64 (.ofNat 32)) h7) (
 bK (eqI v12 (NV.int .i64 (.ofNat 26))) fun v16 =>
 condK v16 (
 mK (calM call 126 [v0] h7) fun v17 h18 =>
 bK (binO .quo (NV.int .i64 (.ofNat 16)) v17) fun v19 =>
 retC v19 h18) (
 bK (eqI v12 (NV.int .i64 (.ofNat 25))) fun v20 =>
 condK v20 (
 mK (bslM 6 false [(0, 1), (1, 1), (2, 1), (3, 1), (4, 1), (5, 1)] [(NV.str 0 0), (NV.str 0 0), (NV.str 0 0), (NV.str 0 0), (NV.str 0 0), (NV.str 0 0)] [(NV.str 5 232758196329), (NV.str 5 242534986089), (NV.str 5 225354855273), (NV.str 5 216765052521), (NV.str 5 225354855270), (NV.str 5 216765052518)] h7) fun v21 h22 =>
 loopC N 3 (fun L27 v23 v24 v25 h26 =>
 bK (lenSl v24) fun v28 =>
 bK (ltI v25 v28) fun v29 =>
 condK v29 (
 bK (fAddr 1 v23) fun v30 =>
 bK (ldO 1 false h26 (chkV h26 v30)) fun v31 =>
 bK (ixS 1 v24 v25) fun v32 =>
 bK (ldO 1 false h26 (chkV h26 v32)) fun v33 =>
 mK (calM call 196 [(chkV h26 v31), (chkV h26 v33)] h26) fun v34 h35 =>
 nextK h26 h35 (
 condK v34 (
 mK (bslM 6 false [(0, 1), (1, 1), (2, 1), (3, 1), (4, 1), (5, 1)] [(NV.int .i64 (.ofNat 0)), (NV.int .i64 (.ofNat 0)), (NV.int .i64 (.ofNat 0)), (NV.int .i64 (.ofNat 0)), (NV.int .i64 (.ofNat 0)), (NV.int .i64 (.ofNat 0))] [(NV.int .i64 (.ofNat 16)), (NV.int .i64 (.ofNat 8)), (NV.int .i64 (.ofNat 4)), (NV.int .i64 (.ofNat 2)), (NV.int .i64 (.ofNat 4)), (NV.int .i64 (.ofNat 2))] h35) fun v36 h37 =>
 bK (ixS 1 v36 v25) fun v38 =>
 bK (ldO 1 false h37 v38) fun v39 =>
 retC v39 h37) (
 bK (addI v25 (NV.int .i64 (.ofNat 1))) fun v40 =>
 L27 v23 v24 v40 h35))) (
 J14 h26)) v4 v21 (NV.int .i64 (.ofNat 0)) h22) (
 J14 h7)))))
theorem e124 : ikB Tryz.prog 10 Tryz.f124 = S124 := by kernel_rfl
theorem k124 [Sig] (w0 : World) : SOK cW w0 124 S124 := okW Tryz.func124 (by kernel_rfl) e124
noncomputable def S127 (call : CallF) (N : Nat) (l : List NV) (h : H) : R :=
 uc l fun v0 l1 => uc l1 fun v2 l3 => un l3 (
 bK (lenSl v0) fun v4 =>
 bK (lenSl v2) fun v5 =>
 bK (neI v4 v5) fun v6 =>
 condK v6 (
 retC (NV.bool false) h) (
 joinC 0 (fun h7 =>
 retC (NV.bool true) h7) fun J8 =>
 loopC N 3 (fun L13 v9 v10 v11 h12 =>
 bK (lenSl v9) fun v14 =>
 bK (ltI v11 v14) fun v15 =>
 condK v15 (
 bK (ixS 1 v9 v11) fun v16 =>
 bK (ldO 1 false h12 (chkV h12 v16)) fun v17 =>
 bK (ixS 1 v10 v11) fun v18 =>
 bK (ldO 1 false h12 (chkV h12 v18)) fun v19 =>
 bK (neI v17 v19) fun v20 =>
 condK v20 (
 retC (NV.bool false) h12) (
 bK (addI v11 (NV.int .i64 (.ofNat 1))) fun v21 =>
 L13 v9 v10 v21 h12)) (
 J8 h12)) v0 v2 (NV.int .i64 (.ofNat 0)) h))
theorem e127 : ikB Tryz.prog 10 Tryz.f127 = S127 := by kernel_rfl
theorem k127 [Sig] (w0 : World) : SOK cW w0 127 S127 := okW Tryz.func127 (by kernel_rfl) e127
noncomputable def S128 (call : CallF) (N : Nat) (l : List NV) (h : H) : R :=
 uc l fun v0 l1 => un l1 (
 mK (boxM false v0 h) fun v2 h3 =>
 bK (fAddr 0 v2) fun v4 =>
 bK (ldO 1 false h3 v4) fun v5 =>
 mK (calM call 129 [v5, (NV.func (.func 130) [] [])] h3) fun v6 h7 =>
 jK (fun v8 h9 =>
 jK (fun v11 h12 =>
 jK (fun v14 h15 =>
 bK (pickO v6 v14 (NV.bool false)) fun v17 =>
 retC v17 h15) fun J16 => gK v6 true (
 mK (calM call 129 [v11, (NV.func (.func 130) [] [])] h12) fun v18 h19 =>
 J16 v18 h19) (J16 (NV.tuple []) h12)) fun J13 => gK v6 true (
 bK (ldO 1 false h9 v8) fun v20 =>
 J13 v20 h9) (J13 (NV.tuple []) h9)) fun J10 => gK v6 true (
 bK (fAddr 1 v2) fun v21 =>
 J10 v21 h7) (J10 (NV.tuple []) h7))
theorem e128 : ikB Tryz.prog 10 Tryz.f128 = S128 := by kernel_rfl
theorem k128 [Sig] (w0 : World) : SOK cW w0 128 S128 := okW Tryz.func128 (by kernel_rfl) e128
noncomputable def S131 (call : CallF) (N : Nat) (l : List NV) (h : H) : R :=
 uc l fun v0 l1 => un l1 (
 mK (boxM false v0 h) fun v2 h3 =>
 bK (fAddr 0 v2) fun v4 =>
 bK (ldO 1 false h3 v4) fun v5 =>
 mK (calM call 132 [v5] h3) fun v6 h7 =>
 jK (fun v8 h9 =>
 jK (fun v11 h12 =>
 jK (fun v14 h15 =>
 jK (fun v17 h18 =>
 bK (pickO v6 v17 (NV.bool false)) fun v20 =>
 jK (fun v21 h22 =>
 jK (fun v24 h25 =>
 jK (fun v27 h28 =>
 bK (pickO v20 v27 (NV.bool false)) fun v30 =>
 jK (fun v31 h32 =>
 jK (fun v34 h35 =>
 jK (fun v37 h38 =>
 bK (pickO v30 v37 (NV.bool false)) fun v40 =>
 retC v40 h38) fun J39 => gK v30 true (
 mK (calM call 133 [v34] h35) fun v41 h42 =>
 J39 v41 h42) (J39 (NV.tuple []) h35)) fun J36 => gK v30 true (
 bK (ldO 1 false h32 v31) fun v43 =>
 J36 v43 h32) (J36 (NV.tuple []) h32)) fun J33 => gK v30 true (
 bK (fAddr 2 v2) fun v44 =>
 J33 v44 h28) (J33 (NV.tuple []) h28)) fun J29 => gK v20 true (
 mK (calM call 129 [v24, (NV.func (.func 130) [] [])] h25) fun v45 h46 =>
 J29 v45 h46) (J29 (NV.tuple []) h25)) fun J26 => gK v20 true (
 bK (ldO 1 false h22 v21) fun v47 =>
 J26 v47 h22) (J26 (NV.tuple []) h22)) fun J23 => gK v20 true (
 bK (fAddr 1 v2) fun v48 =>
 J23 v48 h18) (J23 (NV.tuple []) h18)) fun J19 => gK v6 true (
 bK (leI v14 (NV.int .i64 (.ofNat 50000))) fun v49 =>
 J19 v49 h15) (J19 (NV.tuple []) h15)) fun J16 => gK v6 true (
 bK (lenSl v11) fun v50 =>
 J16 v50 h12) (J16 (NV.tuple []) h12)) fun J13 => gK v6 true (
 bK (ldO 1 false h9 v8) fun v51 =>
 J13 v51 h9) (J13 (NV.tuple []) h9)) fun J10 => gK v6 true (
 bK (fAddr 1 v2) fun v52 =>
 J10 v52 h7) (J10 (NV.tuple []) h7))
theorem e131 : ikB Tryz.prog 10 Tryz.f131 = S131 := by kernel_rfl
theorem k131 [Sig] (w0 : World) : SOK cW w0 131 S131 := okW Tryz.func131 (by kernel_rfl) e131
noncomputable def S134 (call : CallF) (N : Nat) (l : List NV) (h : H) : R :=
 uc l fun v0 l1 => un l1 (
 mK (boxM false v0 h) fun v2 h3 =>
 bK (fAddr 0 v2) fun v4 =>
 bK (fAddr 0 v4) fun v5 =>
 bK (ldO 1 false h3 v5) fun v6 =>
 mK (calM call 130 [v6] h3) fun v7 h8 =>
 jK (fun v9 h10 =>
 jK (fun v12 h13 =>
 jK (fun v15 h16 =>
 bK (pickO v7 v15 (NV.bool false)) fun v18 =>
 retC v18 h16) fun J17 => gK v7 true (
 mK (calM call 133 [v12] h13) fun v19 h20 =>
 J17 v19 h20) (J17 (NV.tuple []) h13)) fun J14 => gK v7 true (
 bK (ldO 1 false h10 v9) fun v21 =>
 J14 v21 h10) (J14 (NV.tuple []) h10)) fun J11 => gK v7 true (
 bK (fAddr 2 v2) fun v22 =>
 J11 v22 h8) (J11 (NV.tuple []) h8))
theorem e134 : ikB Tryz.prog 10 Tryz.f134 = S134 := by kernel_rfl
theorem k134 [Sig] (w0 : World) : SOK cW w0 134 S134 := okW Tryz.func134 (by kernel_rfl) e134
noncomputable def S137 (call : CallF) (N : Nat) (l : List NV) (h : H) : R :=
 uc l fun v0 l1 => uc l1 fun v2 l3 => uc l3 fun v4 l5 => un l5 (
 bK (eqI v0 (NV.int .i64 (.ofNat 0))) fun v6 =>
 jK (fun v7 h8 =>
 jK (fun v10 h11 =>
 bK (pickO v6 v10 (NV.bool false)) fun v13 =>
 jK (fun v14 h15 =>
 jK (fun v17 h18 =>
 bK (pickO v13 v17 (NV.bool false)) fun v20 =>
 jK (fun v21 h22 =>
 jK (fun v24 h25 =>
 jK (fun v27 h28 =>
 jK (fun v30 h31 =>
 jK (fun v33 h34 =>
 jK (fun v36 h37 =>
 jK (fun v39 h40 =>
 jK (fun v42 h43 =>
 jK (fun v45 h46 =>
 jK (fun v48 h49 =>
 jK (fun v51 h52 =>
 bK (pickO v20 (NV.bool true) v51) fun v54 =>
 retC v54 h52) fun J53 => gK v20 false (
 bK (pickO v39 v48 (NV.bool false)) fun v55 =>
 J53 v55 h49) (J53 (NV.tuple []) h49)) fun J50 => gK v39 true (
 bK (eqI v45 (NV.int .i64 (.ofNat 0))) fun v56 =>
 J50 v56 h46) (J50 (NV.tuple []) h46)) fun J47 => gK v39 true (
 bK (lenSl v42) fun v57 =>
 J47 v57 h43) (J47 (NV.tuple []) h43)) fun J44 => gK v39 true (
 J44 v4 h40) (J44 (NV.tuple []) h40)) fun J41 => gK v20 false (
 J41 v36 h37) (J41 (NV.tuple []) h37)) fun J38 => gK v20 false (
 bK (pickO v27 v33 (NV.bool false)) fun v58 =>
 J38 v58 h34) (J38 (NV.tuple []) h34)) fun J35 => gK v27 true (
 bK (eqI v30 (NV.int .i64 (.ofNat 0))) fun v59 =>
 J35 v59 h31) (J35 (NV.tuple []) h31)) fun J32 => gK v27 true (
 J32 v2 h28) (J32 (NV.tuple []) h28)) fun J29 => gK v20 false (
 J29 v24 h25) (J29 (NV.tuple []) h25)) fun J26 => gK v20 false (
 bK (neI v21 (NV.int .i64 (.ofNat 0))) fun v60 =>
 J26 v60 h22) (J26 (NV.tuple []) h22)) fun J23 => gK v20 false (
 J23 v0 h18) (J23 (NV.tuple []) h18)) fun J19 => gK v13 true (
 mK (calM call 133 [v14] h15) fun v61 h62 =>
 J19 v61 h62) (J19 (NV.tuple []) h15)) fun J16 => gK v13 true (
 J16 v4 h11) (J16 (NV.tuple []) h11)) fun J12 => gK v6 true (
 mK (calM call 132 [v7] h8) fun v63 h64 =>
 J12 v63 h64) (J12 (NV.tuple []) h8)) fun J9 => gK v6 true (
 J9 v2 h) (J9 (NV.tuple []) h))
theorem e137 : ikB Tryz.prog 10 Tryz.f137 = S137 := by kernel_rfl
theorem k137 [Sig] (w0 : World) : SOK cW w0 137 S137 := okW Tryz.func137 (by kernel_rfl) e137
noncomputable def S138 (call : CallF) (N : Nat) (l : List NV) (h : H) : R :=
 uc l fun v0 l1 => uc l1 fun v2 l3 => un l3 (
 mK (boxM false v0 h) fun v4 h5 =>
 bK (fAddr 0 v4) fun v6 =>
 bK (ldO 1 false h5 v6) fun v7 =>
 mK (calM call 139 [v7] h5) fun v8 h9 =>
 jK (fun v10 h11 =>
 jK (fun v13 h14 =>
 jK (fun v16 h17 =>
 bK (pickO v8 v16 (NV.bool false)) fun v19 =>
 jK (fun v20 h21 =>
 jK (fun v23 h24 =>
 jK (fun v26 h27 =>
 bK (pickO v19 v26 (NV.bool false)) fun v29 =>
 jK (fun v30 h31 =>
 jK (fun v33 h34 =>
 jK (fun v36 h37 =>
 jK (fun v39 h40 =>
 jK (fun v42 h43 =>
 jK (fun v45 h46 =>
 jK (fun v48 h49 =>
 jK (fun v51 h52 =>
 bK (pickO v29 v51 (NV.bool false)) fun v54 =>
 jK (fun v55 h56 =>
 jK (fun v58 h59 =>
 jK (fun v61 h62 =>
 bK (pickO v54 v61 (NV.bool false)) fun v64 =>
 retC v64 h62) fun J63 => gK v54 true (
 mK (calM call 140 [v58, (NV.func (.func 133) [] [])] h59) fun v65 h66 =>
 J63 v65 h66) (J63 (NV.tuple []) h59)) fun J60 => gK v54 true (
 bK (ldO 1 false h56 v55) fun v67 =>
 J60 v67 h56) (J60 (NV.tuple []) h56)) fun J57 => gK v54 true (
 bK (fAddr 4 v4) fun v68 =>
 J57 v68 h52) (J57 (NV.tuple []) h52)) fun J53 => gK v29 true (
 mK (calV call v30 [v36, v42, v48] h49) fun v69 h70 =>
 J53 v69 h70) (J53 (NV.tuple []) h49)) fun J50 => gK v29 true (
 bK (ldO 1 false h46 v45) fun v71 =>
 J50 v71 h46) (J50 (NV.tuple []) h46)) fun J47 => gK v29 true (
 bK (fAddr 3 v4) fun v72 =>
 J47 v72 h43) (J47 (NV.tuple []) h43)) fun J44 => gK v29 true (
 bK (ldO 1 false h40 v39) fun v73 =>
 J44 v73 h40) (J44 (NV.tuple []) h40)) fun J41 => gK v29 true (
 bK (fAddr 2 v4) fun v74 =>
 J41 v74 h37) (J41 (NV.tuple []) h37)) fun J38 => gK v29 true (
 bK (ldO 1 false h34 v33) fun v75 =>
 J38 v75 h34) (J38 (NV.tuple []) h34)) fun J35 => gK v29 true (
 bK (fAddr 1 v4) fun v76 =>
 J35 v76 h31) (J35 (NV.tuple []) h31)) fun J32 => gK v29 true (
 bK (ldO 1 false h27 v2) fun v77 =>
 J32 v77 h27) (J32 (NV.tuple []) h27)) fun J28 => gK v19 true (
 bK (leI v23 (NV.int .i64 (.ofNat 2))) fun v78 =>
 J28 v78 h24) (J28 (NV.tuple []) h24)) fun J25 => gK v19 true (
 bK (ldO 1 false h21 v20) fun v79 =>
 J25 v79 h21) (J25 (NV.tuple []) h21)) fun J22 => gK v19 true (
 bK (fAddr 1 v4) fun v80 =>
 J22 v80 h17) (J22 (NV.tuple []) h17)) fun J18 => gK v8 true (
 bK (geI v13 (NV.int .i64 (.ofNat 0))) fun v81 =>
 J18 v81 h14) (J18 (NV.tuple []) h14)) fun J15 => gK v8 true (
 bK (ldO 1 false h11 v10) fun v82 =>
 J15 v82 h11) (J15 (NV.tuple []) h11)) fun J12 => gK v8 true (
 bK (fAddr 1 v4) fun v83 =>
 J12 v83 h9) (J12 (NV.tuple []) h9))
theorem e138 : ikB Tryz.prog 10 Tryz.f138 = S138 := by kernel_rfl
theorem k138 [Sig] (w0 : World) : SOK cW w0 138 S138 := okW Tryz.func138 (by kernel_rfl) e138
noncomputable def S141 (call : CallF) (N : Nat) (l : List NV) (h : H) : R :=
 uc l fun v0 l1 => uc l1 fun v2 l3 => un l3 (
 mK (boxM false v0 h) fun v4 h5 =>
 bK (fAddr 0 v4) fun v6 =>
 bK (ldO 1 false h5 v6) fun v7 =>
 bK (eqI v7 (NV.int .i64 (.ofNat 0))) fun v8 =>
 jK (fun v9 h10 =>
 jK (fun v12 h13 =>
 jK (fun v15 h16 =>
 bK (pickO v8 (NV.bool true) v15) fun v18 =>
 jK (fun v19 h20 =>
 jK (fun v22 h23 =>
 jK (fun v25 h26 =>
 jK (fun v28 h29 =>
 jK (fun v31 h32 =>
 jK (fun v34 h35 =>
 jK (fun v37 h38 =>
 jK (fun v40 h41 =>
 bK (pickO v18 v40 (NV.bool false)) fun v43 =>
 retC v43 h41) fun J42 => gK v18 true (
 mK (calV call v19 [v25, v31, v37] h38) fun v44 h45 =>
 J42 v44 h45) (J42 (NV.tuple []) h38)) fun J39 => gK v18 true (
 bK (ldO 1 false h35 v34) fun v46 =>
 J39 v46 h35) (J39 (NV.tuple []) h35)) fun J36 => gK v18 true (
 bK (fAddr 2 v4) fun v47 =>
 J36 v47 h32) (J36 (NV.tuple []) h32)) fun J33 => gK v18 true (
 bK (ldO 1 false h29 v28) fun v48 =>
 J33 v48 h29) (J33 (NV.tuple []) h29)) fun J30 => gK v18 true (
 bK (fAddr 1 v4) fun v49 =>
 J30 v49 h26) (J30 (NV.tuple []) h26)) fun J27 => gK v18 true (
 bK (ldO 1 false h23 v22) fun v50 =>
 J27 v50 h23) (J27 (NV.tuple []) h23)) fun J24 => gK v18 true (
 bK (fAddr 0 v4) fun v51 =>
 J24 v51 h20) (J24 (NV.tuple []) h20)) fun J21 => gK v18 true (
 bK (ldO 1 false h16 v2) fun v52 =>
 J21 v52 h16) (J21 (NV.tuple []) h16)) fun J17 => gK v8 false (
 bK (eqI v12 (NV.int .i64 (.ofNat 1))) fun v53 =>
 J17 v53 h13) (J17 (NV.tuple []) h13)) fun J14 => gK v8 false (
 bK (ldO 1 false h10 v9) fun v54 =>
 J14 v54 h10) (J14 (NV.tuple []) h10)) fun J11 => gK v8 false (
 bK (fAddr 0 v4) fun v55 =>
 J11 v55 h5) (J11 (NV.tuple []) h5))
theorem e141 : ikB Tryz.prog 10 Tryz.f141 = S141 := by kernel_rfl
theorem k141 [Sig] (w0 : World) : SOK cW w0 141 S141 := okW Tryz.func141 (by kernel_rfl) e141
noncomputable def S142 (call : CallF) (N : Nat) (l : List NV) (h : H) : R :=
 uc l fun v0 l1 => uc l1 fun v2 l3 => un l3 (
 mK (boxM false v2 h) fun v4 h5 =>
 mK (calM call 205 [v0, (NV.func (.func 206) [] [v4])] h5) fun v6 h7 =>
 bK (notO v6) fun v8 =>
 retC v8 h7)
theorem e142 : ikB Tryz.prog 10 Tryz.f142 = S142 := by kernel_rfl
theorem k142 [Sig] (w0 : World) : SOK cW w0 142 S142 := okW Tryz.func142 (by kernel_rfl) e142
noncomputable def S143 (call : CallF) (N : Nat) (l : List NV) (h : H) : R :=
 uc l fun v0 l1 => uc l1 fun v2 l3 => un l3 (
 mK (boxM false v2 h) fun v4 h5 =>
 mK (calM call 207 [v0, (NV.func (.func 208) [] [v4])] h5) fun v6 h7 =>
 bK (notO v6) fun v8 =>
 retC v8 h7)
theorem e143 : ikB Tryz.prog 10 Tryz.f143 = S143 := by kernel_rfl
theorem k143 [Sig] (w0 : World) : SOK cW w0 143 S143 := okW Tryz.func143 (by kernel_rfl) e143
noncomputable def S144 (call : CallF) (N : Nat) (l : List NV) (h : H) : R :=
 uc l fun v0 l1 => un l1 (
 mK (boxM false v0 h) fun v2 h3 =>
 bK (fAddr 0 v2) fun v4 =>
 bK (ldO 1 false h3 v4) fun v5 =>
 bK (fAddr 1 v2) fun v6 =>
 bK (ldO 1 false h3 v6) fun v7 =>
 bK (fAddr 2 v2) fun v8 =>
 bK (ldO 1 false h3 v8) fun v9 =>
 bK (bldO [(0, 1), (1, 1), (2, 1)] [(NV.str 0 0), (NV.str 0 0), (NV.int .i64 (.ofNat 0)), (NV.int .i64 (.ofNat 0)), (NV.int .i64 (.ofNat 0)), (NV.int .i64 (.ofNat 0)), (NV.int .i64 (.ofNat 0)), (NV.bool false), (NV.int .i64 (.ofNat 0)), (NV.int .i64 (.ofNat 0)), (NV.bool false), (NV.int .i64 (.ofNat 0)), (NV.bool false)] [v5, v7, v9]) fun v10 =>
 mK (alM (NB.cells [(NV.str 0 0), (NV.str 0 0), (NV.int .i64 (.ofNat 0)), (NV.int .i64 (.ofNat 0)), (NV.int .i64 (.ofNat 0)), (NV.int .i64 (.ofNat 0)), (NV.int .i64 (.ofNat 0)), (NV.bool false), (NV.int .i64 (.ofNat 0)), (NV.int .i64 (.ofNat 0)), (NV.bool false), (NV.int .i64 (.ofNat 0)), (NV.bool false)]) h3) fun v11 h12 =>
 mK (stM 13 v11 v10 h12) fun v13 h14 =>
 bK (fAddr 2 v2) fun v15 =>
 bK (ldO 1 false h14 v15) fun v16 =>
 bK (eqI v16 (NV.int .i64 (.ofNat 0))) fun v17 =>
 joinC 3 (fun v18 v19 v20 h21 =>
 jK (fun v23 h24 =>
 jK (fun v26 h27 =>
 jK (fun v29 h30 =>
 bK (pickO v20 v29 (NV.bool false)) fun v32 =>
 jK (fun v33 h34 =>
 jK (fun v36 h37 =>
 jK (fun v39 h40 =>
 bK (pickO v32 v39 (NV.bool false)) fun v42 =>
 jK (fun v43 h44 =>
 jK (fun v46 h47 =>
 jK (fun v49 h50 =>
 bK (pickO v42 v49 (NV.bool false)) fun v52 =>
 retC v52 h50) fun J51 => gK v42 true (
 mK (calM call 136 [v46] h47) fun v53 h54 =>
 J51 v53 h54) (J51 (NV.tuple []) h47)) fun J48 => gK v42 true (
 bK (ldO 1 false h44 v43) fun v55 =>
 J48 v55 h44) (J48 (NV.tuple []) h44)) fun J45 => gK v42 true (
 bK (fAddr 1 v18) fun v56 =>
 J45 v56 h40) (J45 (NV.tuple []) h40)) fun J41 => gK v32 true (
 mK (calM call 136 [v36] h37) fun v57 h58 =>
 J41 v57 h58) (J41 (NV.tuple []) h37)) fun J38 => gK v32 true (
 bK (ldO 1 false h34 v33) fun v59 =>
 J38 v59 h34) (J38 (NV.tuple []) h34)) fun J35 => gK v32 true (
 bK (fAddr 0 v18) fun v60 =>
 J35 v60 h30) (J35 (NV.tuple []) h30)) fun J31 => gK v20 true (
 bK (eqD Tryz.prog .eql 67 h27 v23 v26) fun v61 =>
 J31 v61 h27) (J31 (NV.tuple []) h27)) fun J28 => gK v20 true (
 bK (ldO 13 true h24 v18) fun v62 =>
 J28 v62 h24) (J28 (NV.tuple []) h24)) fun J25 => gK v20 true (
 bK (ldO 13 true h21 v19) fun v63 =>
 J25 v63 h21) (J25 (NV.tuple []) h21)) fun J22 =>
 condK v17 (
 bK (fAddr 3 v2) fun v64 =>
 bK (ldO 1 false h14 (chkV h14 v64)) fun v65 =>
 bK (fAddr 3 v2) fun v66 =>
 bK (ldO 1 false h14 (chkV h14 v66)) fun v67 =>
 bK (fAddr 3 v11) fun v68 =>
 mK (calM call 132 [(chkV h14 v67)] h14) fun v69 h70 =>
 nextK h14 h70 (
 bK (ldO 1 false h70 (chkV h70 v64)) fun v71 =>
 sameK v71 v65 (
 mK (stM 1 (chkV h70 v68) (chkV h70 v65) h70) fun v72 h73 =>
 nextK h70 h73 (
 J22 v2 v11 v69 h73)))) (
 bK (eqI v16 (NV.int .i64 (.ofNat 1))) fun v74 =>
 condK v74 (
 bK (fAddr 4 v2) fun v75 =>
 bK (ldO 4 true h14 (chkV h14 v75)) fun v76 =>
 bK (fAddr 4 v2) fun v77 =>
 bK (ldO 4 true h14 (chkV h14 v77)) fun v78 =>
 bK (fAddr 4 v11) fun v79 =>
 mK (calM call 147 [(chkV h14 v78)] h14) fun v80 h81 =>
 nextK h14 h81 (
 bK (ldO 4 true h81 (chkV h81 v75)) fun v82 =>
 sameK v82 v76 (
 mK (stM 4 (chkV h81 v79) (chkV h81 v76) h81) fun v83 h84 =>
 nextK h81 h84 (
 J22 v2 v11 v80 h84)))) (
 bK (eqI v16 (NV.int .i64 (.ofNat 2))) fun v85 =>
 condK v85 (
 bK (fAddr 8 v2) fun v86 =>
 bK (ldO 3 true h14 (chkV h14 v86)) fun v87 =>
 bK (fAddr 8 v2) fun v88 =>
 bK (ldO 3 true h14 (chkV h14 v88)) fun v89 =>
 bK (fAddr 8 v11) fun v90 =>
 mK (calM call 149 [(chkV h14 v89)] h14) fun v91 h92 =>
 nextK h14 h92 (
 bK (ldO 3 true h92 (chkV h92 v86)) fun v93 =>
 sameK v93 v87 (
 mK (stM 3 (chkV h92 v90) (chkV h92 v87) h92) fun v94 h95 =>
 nextK h92 h95 (
 J22 v2 v11 v91 h95)))) (
 bK (eqI v16 (NV.int .i64 (.ofNat 3))) fun v96 =>
 condK v96 (
 bK (fAddr 11 v2) fun v97 =>
 bK (ldO 2 true h14 (chkV h14 v97)) fun v98 =>
 bK (fAddr 11 v2) fun v99 =>
 bK (fAddr 0 v99) fun v100 =>
 bK (ldO 1 false h14 (chkV h14 v100)) fun v101 =>
 bK (fAddr 11 v11) fun v102 =>
 mK (calM call 130 [(chkV h14 v101)] h14) fun v103 h104 =>
 nextK h14 h104 (
 bK (ldO 2 true h104 (chkV h104 v97)) fun v105 =>
 sameK v105 v98 (
 mK (stM 2 (chkV h104 v102) (chkV h104 v98) h104) fun v106 h107 =>
 nextK h104 h107 (
 J22 v2 v11 v103 h107)))) (
 J22 v2 v11 (NV.bool false) h14)))))
theorem e144 : ikB Tryz.prog 10 Tryz.f144 = S144 := by kernel_rfl
theorem k144 [Sig] (w0 : World) : SOK cW w0 144 S144 := okW Tryz.func144 (by kernel_rfl) e144
noncomputable def S145 (call : CallF) (N : Nat) (l : List NV) (h : H) : R :=
 uc l fun v0 l1 => uc l1 fun v2 l3 => un l3 (
 mK (boxM false v2 h) fun v4 h5 =>
 mK (calM call 209 [v0, (NV.func (.func 210) [] [v4])] h5) fun v6 h7 =>
 bK (notO v6) fun v8 =>
 retC v8 h7)
theorem e145 : ikB Tryz.prog 10 Tryz.f145 = S145 := by kernel_rfl
theorem k145 [Sig] (w0 : World) : SOK cW w0 145 S145 := okW Tryz.func145 (by kernel_rfl) e145
noncomputable def S146 (call : CallF) (N : Nat) (l : List NV) (h : H) : R :=
 uc l fun v0 l1 => uc l1 fun v2 l3 => un l3 (
 mK (boxM false v2 h) fun v4 h5 =>
 mK (calM call 160 [v0, (NV.func (.func 211) [] [v4])] h5) fun v6 h7 =>
 bK (notO v6) fun v8 =>
 retC v8 h7)
theorem e146 : ikB Tryz.prog 10 Tryz.f146 = S146 := by kernel_rfl
theorem k146 [Sig] (w0 : World) : SOK cW w0 146 S146 := okW Tryz.func146 (by kernel_rfl) e146
noncomputable def S147 (call : CallF) (N : Nat) (l : List NV) (h : H) : R :=
 uc l fun v0 l1 => un l1 (
 mK (boxM false v0 h) fun v2 h3 =>
 bK (fAddr 0 v2) fun v4 =>
 bK (ldO 1 false h3 v4) fun v5 =>
 mK (calM call 139 [v5] h3) fun v6 h7 =>
 jK (fun v8 h9 =>
 jK (fun v11 h12 =>
 jK (fun v14 h15 =>
 bK (pickO v6 v14 (NV.bool false)) fun v17 =>
 retC v17 h15) fun J16 => gK v6 true (
 mK (calM call 149 [v11] h12) fun v18 h19 =>
 J16 v18 h19) (J16 (NV.tuple []) h12)) fun J13 => gK v6 true (
 bK (ldO 3 true h9 v8) fun v20 =>
 J13 v20 h9) (J13 (NV.tuple []) h9)) fun J10 => gK v6 true (
 bK (fAddr 1 v2) fun v21 =>
 J10 v21 h7) (J10 (NV.tuple []) h7))
theorem e147 : ikB Tryz.prog 10 Tryz.f147 = S147 := by kernel_rfl
theorem k147 [Sig] (w0 : World) : SOK cW w0 147 S147 := okW Tryz.func147 (by kernel_rfl) e147
noncomputable def S148 (call : CallF) (N : Nat) (l : List NV) (h : H) : R :=
 uc l fun v0 l1 => uc l1 fun v2 l3 => un l3 (
 mK (boxM false v2 h) fun v4 h5 =>
 mK (calM call 161 [v0, (NV.func (.func 212) [] [v4])] h5) fun v6 h7 =>
 bK (notO v6) fun v8 =>
 retC v8 h7)
theorem e148 : ikB Tryz.prog 10 Tryz.f148 = S148 := by kernel_rfl
theorem k148 [Sig] (w0 : World) : SOK cW w0 148 S148 := okW Tryz.func148 (by kernel_rfl) e148
noncomputable def S149 (call : CallF) (N : Nat) (l : List NV) (h : H) : R :=
 uc l fun v0 l1 => un l1 (
 mK (boxM false v0 h) fun v2 h3 =>
 bK (fAddr 0 v2) fun v4 =>
 bK (ldO 1 false h3 v4) fun v5 =>
 mK (calM call 132 [v5] h3) fun v6 h7 =>
 jK (fun v8 h9 =>
 jK (fun v11 h12 =>
 jK (fun v14 h15 =>
 bK (pickO v6 v14 (NV.bool false)) fun v17 =>
 jK (fun v18 h19 =>
 jK (fun v21 h22 =>
 jK (fun v24 h25 =>
 jK (fun v27 h28 =>
 jK (fun v30 h31 =>
 jK (fun v33 h34 =>
 jK (fun v36 h37 =>
 bK (pickO v17 v36 (NV.bool false)) fun v39 =>
 retC v39 h37) fun J38 => gK v17 true (
 bK (pickO v24 (NV.bool true) v33) fun v40 =>
 J38 v40 h34) (J38 (NV.tuple []) h34)) fun J35 => gK v24 false (
 bK (eqI v30 (NV.int .i64 (.ofNat 0))) fun v41 =>
 J35 v41 h31) (J35 (NV.tuple []) h31)) fun J32 => gK v24 false (
 bK (ldO 1 false h28 v27) fun v42 =>
 J32 v42 h28) (J32 (NV.tuple []) h28)) fun J29 => gK v24 false (
 bK (fAddr 1 v2) fun v43 =>
 J29 v43 h25) (J29 (NV.tuple []) h25)) fun J26 => gK v17 true (
 J26 v21 h22) (J26 (NV.tuple []) h22)) fun J23 => gK v17 true (
 bK (ldO 1 false h19 v18) fun v44 =>
 J23 v44 h19) (J23 (NV.tuple []) h19)) fun J20 => gK v17 true (
 bK (fAddr 2 v2) fun v45 =>
 J20 v45 h15) (J20 (NV.tuple []) h15)) fun J16 => gK v6 true (
 mK (calM call 132 [v11] h12) fun v46 h47 =>
 J16 v46 h47) (J16 (NV.tuple []) h12)) fun J13 => gK v6 true (
 bK (ldO 1 false h9 v8) fun v48 =>
 J13 v48 h9) (J13 (NV.tuple []) h9)) fun J10 => gK v6 true (
 bK (fAddr 1 v2) fun v49 =>
 J10 v49 h7) (J10 (NV.tuple []) h7))
theorem e149 : ikB Tryz.prog 10 Tryz.f149 = S149 := by kernel_rfl
theorem k149 [Sig] (w0 : World) : SOK cW w0 149 S149 := okW Tryz.func149 (by kernel_rfl) e149
noncomputable def S150 (call : CallF) (N : Nat) (l : List NV) (h : H) : R :=
 uc l fun v0 l1 => uc l1 fun v2 l3 => un l3 (
 mK (boxM false v2 h) fun v4 h5 =>
 mK (calM call 213 [v0, (NV.func (.func 214) [] [v4])] h5) fun v6 h7 =>
 bK (notO v6) fun v8 =>
 retC v8 h7)
theorem e150 : ikB Tryz.prog 10 Tryz.f150 = S150 := by kernel_rfl
theorem k150 [Sig] (w0 : World) : SOK cW w0 150 S150 := okW Tryz.func150 (by kernel_rfl) e150
noncomputable def S151 (call : CallF) (N : Nat) (l : List NV) (h : H) : R :=
 uc l fun v0 l1 => uc l1 fun v2 l3 => un l3 (
 mK (boxM false v2 h) fun v4 h5 =>
 mK (calM call 215 [v0, (NV.func (.func 216) [] [v4])] h5) fun v6 h7 =>
 bK (notO v6) fun v8 =>
 retC v8 h7)
theorem e151 : ikB Tryz.prog 10 Tryz.f151 = S151 := by kernel_rfl
theorem k151 [Sig] (w0 : World) : SOK cW w0 151 S151 := okW Tryz.func151 (by kernel_rfl) e151
noncomputable def S152 (call : CallF) (N : Nat) (l : List NV) (h : H) : R :=
 uc l fun v0 l1 => uc l1 fun v2 l3 => un l3 (
 mK (boxM false v2 h) fun v4 h5 =>
 mK (calM call 217 [v0, (NV.func (.func 218) [] [v4])] h5) fun v6 h7 =>
 bK (notO v6) fun v8 =>
 retC v8 h7)
theorem e152 : ikB Tryz.prog 10 Tryz.f152 = S152 := by kernel_rfl
theorem k152 [Sig] (w0 : World) : SOK cW w0 152 S152 := okW Tryz.func152 (by kernel_rfl) e152
noncomputable def S153 (call : CallF) (N : Nat) (l : List NV) (h : H) : R :=
 uc l fun v0 l1 => uc l1 fun v2 l3 => un l3 (
 mK (boxM false v2 h) fun v4 h5 =>
 mK (calM call 219 [v0, (NV.func (.func 220) [] [v4])] h5) fun v6 h7 =>
 bK (notO v6) fun v8 =>
 retC v8 h7)
theorem e153 : ikB Tryz.prog 10 Tryz.f153 = S153 := by kernel_rfl
theorem k153 [Sig] (w0 : World) : SOK cW w0 153 S153 := okW Tryz.func153 (by kernel_rfl) e153
noncomputable def S155 (call : CallF) (N : Nat) (l : List NV) (h : H) : R :=
 uc l fun v0 l1 => uc l1 fun v2 l3 => un l3 (
 bK (lenSl v2) fun v4 =>
 loopC N 4 (fun L10 v5 v6 v7 v8 h9 =>
 bK (ltI v8 v7) fun v11 =>
 condK v11 (
 bK (ixS 9 v6 v8) fun v12 =>
 bK (ldO 9 true h9 v12) fun v13 =>
 mK (alM (NB.cells [(NV.int .i64 (.ofNat 0)), (NV.int .i64 (.ofNat 0)), (NV.int .i64 (.ofNat 0)), (NV.int .u64 (.ofNat 0)), (NV.int .u64 (.ofNat 0)), NV.nslice, NV.nslice, NV.nslice, (NV.bool false)]) h9) fun v14 h15 =>
 mK (stM 9 v14 v13 h15) fun v16 h17 =>
 bK (fAddr 0 v14) fun v18 =>
 bK (ldO 1 false h17 v18) fun v19 =>
 bK (eqI v19 (NV.int .i64 (.ofNat 210))) fun v20 =>
 joinC 5 (fun v21 v22 v23 v24 v25 h26 =>
 bK (fAddr 6 v22) fun v28 =>
 bK (ldO 1 false h26 v28) fun v29 =>
 mK (calM call 155 [v21, v29] h26) fun v30 h31 =>
 bK (fAddr 7 v22) fun v32 =>
 bK (ldO 1 false h31 v32) fun v33 =>
 mK (calM call 155 [v21, v33] h31) fun v34 h35 =>
 bK (addI v25 (NV.int .i64 (.ofNat 1))) fun v36 =>
 L10 v21 v23 v24 v36 h35) fun J27 =>
 condK v20 (
 bK (nilO v5) fun v37 =>
 bK (fAddr 16 v37) fun v38 =>
 bK (ldO 1 false h17 (chkV h17 v38)) fun v39 =>
 bK (fAddr 1 v14) fun v40 =>
 bK (ldO 1 false h17 (chkV h17 v40)) fun v41 =>
 mK (updM Tryz.prog 280 (chkV h17 v39) (chkV h17 v41) (NV.bool true) h17) fun v42 h43 =>
 nextK h17 h43 (
 J27 v5 v14 v6 v7 v8 h43)) (
 J27 v5 v14 v6 v7 v8 h17)) (
 retC (NV.tuple []) h9)) v0 v2 v4 (NV.int .i64 (.ofNat 0)) h)
theorem e155 : ikB Tryz.prog 10 Tryz.f155 = S155 := by kernel_rfl
theorem k155 [Sig] (w0 : World) : SOK cW w0 155 S155 := okW Tryz.func155 (by kernel_rfl) e155
noncomputable def S156 (call : CallF) (N : Nat) (l : List NV) (h : H) : R :=
 uc l fun v0 l1 => uc l1 fun v2 l3 => un l3 (
 mK (alM (NB.cells [NV.nslice, NV.nslice]) h) fun v4 h5 =>
 bK (ltI v2 (NV.int .i64 (.ofNat 0))) fun v6 =>
 jK (fun v7 h8 =>
 jK (fun v10 h11 =>
 jK (fun v13 h14 =>
 jK (fun v16 h17 =>
 jK (fun v19 h20 =>
 jK (fun v22 h23 =>
 jK (fun v25 h26 =>
 bK (pickO v6 (NV.bool true) v25) fun v28 =>
 jK (fun v29 h30 =>
 jK (fun v32 h33 =>
 jK (fun v35 h36 =>
 jK (fun v38 h39 =>
 jK (fun v41 h42 =>
 jK (fun v44 h45 =>
 jK (fun v47 h48 =>
 jK (fun v50 h51 =>
 jK (fun v53 h54 =>
 jK (fun v56 h57 =>
 jK (fun v59 h60 =>
 jK (fun v62 h63 =>
 jK (fun v65 h66 =>
 jK (fun v68 h69 =>
 bK (pickO v28 (NV.bool true) v68) fun v71 =>
 condK v71 (
 bK (bldO [] [NV.nslice, NV.nslice] []) fun v72 =>
 mK (stM 2 v4 v72 h5) fun v73 h74 =>
 bK (ldB 2 true h74 v4) fun v75 =>
 retC (NV.tuple [v75, (NV.bool false)]) h74) (
 bK (nilO v0) fun v76 =>
 bK (fAddr 0 v76) fun v77 =>
 bK (fAddr 0 v77) fun v78 =>
 bK (ldO 1 false h5 (chkV h5 v78)) fun v79 =>
 bK (nilO v0) fun v80 =>
 bK (fAddr 11 v80) fun v81 =>
 bK (ldO 1 false h5 (chkV h5 v81)) fun v82 =>
 bK (ixS 1 v82 v2) fun v83 =>
 bK (ldO 1 false h5 (chkV h5 v83)) fun v84 =>
 bK (ixS 2 v79 v84) fun v85 =>
 bK (ldO 2 true h5 (chkV h5 v85)) fun v86 =>
 mK (stM 2 (chkV h5 v4) (chkV h5 v86) h5) fun v87 h88 =>
 nextK h5 h88 (
 bK (ldB 2 true h88 v4) fun v89 =>
 retC (NV.tuple [v89, (NV.bool true)]) h88))) fun J70 => gK v28 false (
 bK (geI v47 v65) fun v90 =>
 J70 v90 h5) (J70 (NV.tuple []) h5)) fun J67 => gK v28 false (
 bK (lenSl v62) fun v91 =>
 J67 v91 h5) (J67 (NV.tuple []) h5)) fun J64 => gK v28 false (
 bK (ldO 1 false h5 (chkV h5 v59)) fun v92 =>
 J64 v92 h5) (J64 (NV.tuple []) h5)) fun J61 => gK v28 false (
 bK (fAddr 0 v56) fun v93 =>
 J61 v93 h5) (J61 (NV.tuple []) h5)) fun J58 => gK v28 false (
 bK (fAddr 0 v53) fun v94 =>
 J58 v94 h5) (J58 (NV.tuple []) h5)) fun J55 => gK v28 false (
 bK (nilO v50) fun v95 =>
 J55 v95 h5) (J55 (NV.tuple []) h5)) fun J52 => gK v28 false (
 J52 v0 h5) (J52 (NV.tuple []) h5)) fun J49 => gK v28 false (
 bK (ldO 1 false h5 (chkV h5 v44)) fun v96 =>
 J49 v96 h5) (J49 (NV.tuple []) h5)) fun J46 => gK v28 false (
 bK (ixS 1 v38 v41) fun v97 =>
 J46 v97 h5) (J46 (NV.tuple []) h5)) fun J43 => gK v28 false (
 J43 v2 h5) (J43 (NV.tuple []) h5)) fun J40 => gK v28 false (
 bK (ldO 1 false h5 (chkV h5 v35)) fun v98 =>
 J40 v98 h5) (J40 (NV.tuple []) h5)) fun J37 => gK v28 false (
 bK (fAddr 11 v32) fun v99 =>
 J37 v99 h5) (J37 (NV.tuple []) h5)) fun J34 => gK v28 false (
 bK (nilO v29) fun v100 =>
 J34 v100 h5) (J34 (NV.tuple []) h5)) fun J31 => gK v28 false (
 J31 v0 h5) (J31 (NV.tuple []) h5)) fun J27 => gK v6 false (
 bK (geI v7 v22) fun v101 =>
 J27 v101 h5) (J27 (NV.tuple []) h5)) fun J24 => gK v6 false (
 bK (lenSl v19) fun v102 =>
 J24 v102 h5) (J24 (NV.tuple []) h5)) fun J21 => gK v6 false (
 bK (ldO 1 false h5 (chkV h5 v16)) fun v103 =>
 J21 v103 h5) (J21 (NV.tuple []) h5)) fun J18 => gK v6 false (
 bK (fAddr 11 v13) fun v104 =>
 J18 v104 h5) (J18 (NV.tuple []) h5)) fun J15 => gK v6 false (
 bK (nilO v10) fun v105 =>
 J15 v105 h5) (J15 (NV.tuple []) h5)) fun J12 => gK v6 false (
 J12 v0 h5) (J12 (NV.tuple []) h5)) fun J9 => gK v6 false (
 J9 v2 h5) (J9 (NV.tuple []) h5))
theorem e156 : ikB Tryz.prog 10 Tryz.f156 = S156 := by kernel_rfl
theorem k156 [Sig] (w0 : World) : SOK cW w0 156 S156 := okW Tryz.func156 (by kernel_rfl) e156
noncomputable def S157 (call : CallF) (N : Nat) (l : List NV) (h : H) : R :=
 uc l fun v0 l1 => un l1 (
 mK (boxM false v0 h) fun v2 h3 =>
 bK (fAddr 1 v2) fun v4 =>
 bK (ldO 3 true h3 v4) fun v5 =>
 mK (calM call 158 [v5, (NV.int .i64 (.ofNat 4294967295))] h3) fun v6 h7 =>
 bK (notO v6) fun v8 =>
 retC v8 h7)
theorem e157 : ikB Tryz.prog 10 Tryz.f157 = S157 := by kernel_rfl
theorem k157 [Sig] (w0 : World) : SOK cW w0 157 S157 := okW Tryz.func157 (by kernel_rfl) e157
noncomputable def S159 (call : CallF) (N : Nat) (l : List NV) (h : H) : R :=
 uc l fun v0 l1 => un l1 (
 mK (boxM false v0 h) fun v2 h3 =>
 bK (ldO 3 true h3 v2) fun v4 =>
 mK (calM call 158 [v4, (NV.int .i64 (.ofNat 65536))] h3) fun v5 h6 =>
 bK (notO v5) fun v7 =>
 retC v7 h6)
theorem e159 : ikB Tryz.prog 10 Tryz.f159 = S159 := by kernel_rfl
theorem k159 [Sig] (w0 : World) : SOK cW w0 159 S159 := okW Tryz.func159 (by kernel_rfl) e159
noncomputable def S160 (call : CallF) (N : Nat) (l : List NV) (h : H) : R :=
 uc l fun v0 l1 => uc l1 fun v2 l3 => un l3 (
 mK (calM call 223 [v0, v2] h) fun v4 h5 =>
 bK (geI v4 (NV.int .i64 (.ofNat 0))) fun v6 =>
 retC v6 h5)
theorem e160 : ikB Tryz.prog 10 Tryz.f160 = S160 := by kernel_rfl
theorem k160 [Sig] (w0 : World) : SOK cW w0 160 S160 := okW Tryz.func160 (by kernel_rfl) e160
noncomputable def S161 (call : CallF) (N : Nat) (l : List NV) (h : H) : R :=
 uc l fun v0 l1 => uc l1 fun v2 l3 => un l3 (
 mK (calM call 224 [v0, v2] h) fun v4 h5 =>
 bK (geI v4 (NV.int .i64 (.ofNat 0))) fun v6 =>
 retC v6 h5)
theorem e161 : ikB Tryz.prog 10 Tryz.f161 = S161 := by kernel_rfl
theorem k161 [Sig] (w0 : World) : SOK cW w0 161 S161 := okW Tryz.func161 (by kernel_rfl) e161
noncomputable def S162 (call : CallF) (N : Nat) (l : List NV) (h : H) : R :=
 uc l fun v0 l1 => uc l1 fun v2 l3 => uc l3 fun v4 l5 => un l5 (
 bK (lenSl v2) fun v6 =>
 bK (neI v6 (NV.int .i64 (.ofNat 1))) fun v7 =>
 condK v7 (
 retC (NV.bool false) h) (
 bK (ixS 9 v2 (NV.int .i64 (.ofNat 0))) fun v8 =>
 bK (ldO 9 true h v8) fun v9 =>
 mK (alM (NB.cells [(NV.int .i64 (.ofNat 0)), (NV.int .i64 (.ofNat 0)), (NV.int .i64 (.ofNat 0)), (NV.int .u64 (.ofNat 0)), (NV.int .u64 (.ofNat 0)), NV.nslice, NV.nslice, NV.nslice, (NV.bool false)]) h) fun v10 h11 =>
 mK (stM 9 v10 v9 h11) fun v12 h13 =>
 bK (fAddr 0 v10) fun v14 =>
 bK (ldO 1 false h13 v14) fun v15 =>
 bK (geI v15 (NV.int .i64 (.ofNat 65))) fun v16 =>
 jK (fun v17 h18 =>
 jK (fun v20 h21 =>
 jK (fun v23 h24 =>
 bK (pickO v16 v23 (NV.bool false)) fun v26 =>
 jK (fun v27 h28 =>
 jK (fun v30 h31 =>
 jK (fun v33 h34 =>
 bK (pickO v26 (NV.bool true) v33) fun v36 =>
 condK v36 (
 bK (fAddr 0 v10) fun v37 =>
 bK (ldO 1 false h34 v37) fun v38 =>
 mK (calM call 56 [v38] h34) fun v39 h40 =>
 bK (extO 0 v39) fun v41 =>
 bK (extO 1 v39) fun v42 =>
 bK (extO 2 v39) fun v43 =>
 bK (ixS 1 v42 (NV.int .i64 (.ofNat 0))) fun v44 =>
 bK (ldO 1 false h40 v44) fun v45 =>
 bK (eqI v45 v4) fun v46 =>
 retC v46 h40) (
 bK (fAddr 0 v10) fun v47 =>
 bK (ldO 1 false h34 v47) fun v48 =>
 bK (eqI v48 (NV.int .i64 (.ofNat 208))) fun v49 =>
 condK v49 (
 bK (fAddr 1 v10) fun v50 =>
 bK (ldO 1 false h34 v50) fun v51 =>
 bK (eqI v51 v4) fun v52 =>
 retC v52 h34) (
 bK (fAddr 0 v10) fun v53 =>
 bK (ldO 1 false h34 v53) fun v54 =>
 bK (eqI v54 (NV.int .i64 (.ofNat 210))) fun v55 =>
 condK v55 (
 bK (fAddr 1 v10) fun v56 =>
 bK (ldO 1 false h34 (chkV h34 v56)) fun v57 =>
 bK (nilO v0) fun v58 =>
 bK (fAddr 11 v58) fun v59 =>
 bK (ldO 1 false h34 (chkV h34 v59)) fun v60 =>
 bK (lenSl v60) fun v61 =>
 bK (ltI v57 v61) fun v62 =>
 jK (fun v63 h64 =>
 jK (fun v66 h67 =>
 bK (pickO v62 v66 (NV.bool false)) fun v69 =>
 retC v69 h34) fun J68 => gK v62 true (
 bK (eqI v63 (NV.int .i64 (.ofNat 112))) fun v70 =>
 J68 v70 h34) (J68 (NV.tuple []) h34)) fun J65 => gK v62 true (
 J65 v4 h34) (J65 (NV.tuple []) h34)) (
 bK (fAddr 0 v10) fun v71 =>
 bK (ldO 1 false h34 v71) fun v72 =>
 bK (eqI v72 (NV.int .i64 (.ofNat 35))) fun v73 =>
 condK v73 (
 bK (fAddr 1 v10) fun v74 =>
 bK (ldO 1 false h34 (chkV h34 v74)) fun v75 =>
 bK (nilO v0) fun v76 =>
 bK (fAddr 15 v76) fun v77 =>
 bK (ldO 1 false h34 (chkV h34 v77)) fun v78 =>
 bK (ltI v75 v78) fun v79 =>
 jK (fun v80 h81 =>
 jK (fun v83 h84 =>
 jK (fun v86 h87 =>
 jK (fun v89 h90 =>
 jK (fun v92 h93 =>
 jK (fun v95 h96 =>
 jK (fun v98 h99 =>
 jK (fun v101 h102 =>
 jK (fun v104 h105 =>
 jK (fun v107 h108 =>
 bK (pickO v79 v107 (NV.bool false)) fun v110 =>
 jK (fun v111 h112 =>
 jK (fun v114 h115 =>
 jK (fun v117 h118 =>
 jK (fun v120 h121 =>
 jK (fun v123 h124 =>
 jK (fun v126 h127 =>
 jK (fun v129 h130 =>
 jK (fun v132 h133 =>
 jK (fun v135 h136 =>
 jK (fun v138 h139 =>
 jK (fun v141 h142 =>
 bK (pickO v110 v141 (NV.bool false)) fun v144 =>
 retC v144 h34) fun J143 => gK v110 true (
 bK (eqI v135 v138) fun v145 =>
 J143 v145 h34) (J143 (NV.tuple []) h34)) fun J140 => gK v110 true (
 J140 v4 h34) (J140 (NV.tuple []) h34)) fun J137 => gK v110 true (
 bK (ldO 1 false h34 (chkV h34 v132)) fun v146 =>
 J137 v146 h34) (J137 (NV.tuple []) h34)) fun J134 => gK v110 true (
 bK (fAddr 0 v129) fun v147 =>
 J134 v147 h34) (J134 (NV.tuple []) h34)) fun J131 => gK v110 true (
 bK (ixS 2 v120 v126) fun v148 =>
 J131 v148 h34) (J131 (NV.tuple []) h34)) fun J128 => gK v110 true (
 bK (ldO 1 false h34 (chkV h34 v123)) fun v149 =>
 J128 v149 h34) (J128 (NV.tuple []) h34)) fun J125 => gK v110 true (
 bK (fAddr 1 v10) fun v150 =>
 J125 v150 h34) (J125 (NV.tuple []) h34)) fun J122 => gK v110 true (
 bK (ldO 1 false h34 (chkV h34 v117)) fun v151 =>
 J122 v151 h34) (J122 (NV.tuple []) h34)) fun J119 => gK v110 true (
 bK (fAddr 14 v114) fun v152 =>
 J119 v152 h34) (J119 (NV.tuple []) h34)) fun J116 => gK v110 true (
 bK (nilO v111) fun v153 =>
 J116 v153 h34) (J116 (NV.tuple []) h34)) fun J113 => gK v110 true (
 J113 v0 h34) (J113 (NV.tuple []) h34)) fun J109 => gK v79 true (
 bK (notO v104) fun v154 =>
 J109 v154 h34) (J109 (NV.tuple []) h34)) fun J106 => gK v79 true (
 bK (ldO 1 false h34 (chkV h34 v101)) fun v155 =>
 J106 v155 h34) (J106 (NV.tuple []) h34)) fun J103 => gK v79 true (
 bK (fAddr 1 v98) fun v156 =>
 J103 v156 h34) (J103 (NV.tuple []) h34)) fun J100 => gK v79 true (
 bK (ixS 2 v89 v95) fun v157 =>
 J100 v157 h34) (J100 (NV.tuple []) h34)) fun J97 => gK v79 true (
 bK (ldO 1 false h34 (chkV h34 v92)) fun v158 =>
 J97 v158 h34) (J97 (NV.tuple []) h34)) fun J94 => gK v79 true (
 bK (fAddr 1 v10) fun v159 =>
 J94 v159 h34) (J94 (NV.tuple []) h34)) fun J91 => gK v79 true (
 bK (ldO 1 false h34 (chkV h34 v86)) fun v160 =>
 J91 v160 h34) (J91 (NV.tuple []) h34)) fun J88 => gK v79 true (
 bK (fAddr 14 v83) fun v161 =>
 J88 v161 h34) (J88 (NV.tuple []) h34)) fun J85 => gK v79 true (
 bK (nilO v80) fun v162 =>
 J85 v162 h34) (J85 (NV.tuple []) h34)) fun J82 => gK v79 true (
 J82 v0 h34) (J82 (NV.tuple []) h34)) (
 retC (NV.bool false) h34))))) fun J35 => gK v26 false (
 bK (eqI v30 (NV.int .i64 (.ofNat 64780))) fun v163 =>
 J35 v163 h31) (J35 (NV.tuple []) h31)) fun J32 => gK v26 false (
 bK (ldO 1 false h28 v27) fun v164 =>
 J32 v164 h28) (J32 (NV.tuple []) h28)) fun J29 => gK v26 false (
 bK (fAddr 0 v10) fun v165 =>
 J29 v165 h24) (J29 (NV.tuple []) h24)) fun J25 => gK v16 true (
 bK (leI v20 (NV.int .i64 (.ofNat 68))) fun v166 =>
 J25 v166 h21) (J25 (NV.tuple []) h21)) fun J22 => gK v16 true (
 bK (ldO 1 false h18 v17) fun v167 =>
 J22 v167 h18) (J22 (NV.tuple []) h18)) fun J19 => gK v16 true (
 bK (fAddr 0 v10) fun v168 =>
 J19 v168 h13) (J19 (NV.tuple []) h13)))
theorem e162 : ikB Tryz.prog 10 Tryz.f162 = S162 := by kernel_rfl
theorem k162 [Sig] (w0 : World) : SOK cW w0 162 S162 := okW Tryz.func162 (by kernel_rfl) e162
end Go.Proofs.YtfdmaafadphnfaaGreatDoor
