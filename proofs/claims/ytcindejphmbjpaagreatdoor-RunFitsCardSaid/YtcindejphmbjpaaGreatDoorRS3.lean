/- Seat runfits: the shallow functions of this program, part 3: printed by a program, each held against the staged interpreter by the kernel. -/
import Derived.Test.YtcindejphmbjpaaGreatDoorRA
set_option maxRecDepth 100000
set_option linter.unusedVariables false
namespace Go.Proofs.YtcindejphmbjpaaGreatDoor
open Go Go.Ne
noncomputable def S128 (call : CallF) (N : Nat) (l : List NV) (h : H) : R :=
 uc l fun v0 l1 => uc l1 fun v2 l3 => un l3 (
 mK (boxM false v2 h) fun v4 h5 =>
 mK (calM call 182 [v0, (NV.func (.func 183) [] [v4])] h5) fun v6 h7 =>
 retC v6 h7)
theorem e128 : ikB Tryz.prog 9 Tryz.f128 = S128 := by kernel_rfl
theorem k128 [Sig] (w0 : World) : SOK cW w0 128 S128 := okW Tryz.func128 (by kernel_rfl) e128
noncomputable def S129 (call : CallF) (N : Nat) (l : List NV) (h : H) : R :=
 uc l fun v0 l1 => un l1 (
 mK (boxM false v0 h) fun v2 h3 =>
 bK (fAddr 0 v2) fun v4 =>
 bK (ldO 1 false h3 v4) fun v5 =>
 mK (calM call 46 [v5] h3) fun v6 h7 =>
 bK (notO v6) fun v8 =>
 condK v8 (
 retC (NV.bool false) h7) (
 bK (fAddr 0 v2) fun v9 =>
 bK (ldO 1 false h7 v9) fun v10 =>
 mK (calM call 45 [v10] h7) fun v11 h12 =>
 bK (eqI v11 (NV.int .i64 (.ofNat 1))) fun v13 =>
 condK v13 (
 bK (fAddr 1 v2) fun v14 =>
 bK (ldO 1 false h12 v14) fun v15 =>
 bK (eqI v15 (NV.int .i64 (.ofNat 0))) fun v16 =>
 jK (fun v17 h18 =>
 jK (fun v20 h21 =>
 jK (fun v23 h24 =>
 bK (pickO v16 v23 (NV.bool false)) fun v26 =>
 jK (fun v27 h28 =>
 jK (fun v30 h31 =>
 jK (fun v33 h34 =>
 jK (fun v36 h37 =>
 jK (fun v39 h40 =>
 jK (fun v42 h43 =>
 jK (fun v45 h46 =>
 jK (fun v48 h49 =>
 bK (pickO v26 (NV.bool true) v48) fun v51 =>
 jK (fun v52 h53 =>
 jK (fun v55 h56 =>
 jK (fun v58 h59 =>
 jK (fun v61 h62 =>
 jK (fun v64 h65 =>
 jK (fun v67 h68 =>
 jK (fun v70 h71 =>
 jK (fun v73 h74 =>
 bK (pickO v51 (NV.bool true) v73) fun v76 =>
 jK (fun v77 h78 =>
 jK (fun v80 h81 =>
 jK (fun v83 h84 =>
 bK (pickO v76 v83 (NV.bool false)) fun v86 =>
 jK (fun v87 h88 =>
 jK (fun v90 h91 =>
 jK (fun v93 h94 =>
 jK (fun v96 h97 =>
 jK (fun v99 h100 =>
 jK (fun v102 h103 =>
 jK (fun v105 h106 =>
 jK (fun v108 h109 =>
 bK (pickO v86 v108 (NV.bool false)) fun v111 =>
 jK (fun v112 h113 =>
 jK (fun v115 h116 =>
 jK (fun v118 h119 =>
 jK (fun v121 h122 =>
 jK (fun v124 h125 =>
 jK (fun v127 h128 =>
 jK (fun v130 h131 =>
 jK (fun v133 h134 =>
 bK (pickO v111 v133 (NV.bool false)) fun v136 =>
 retC v136 h134) fun J135 => gK v111 true (
 bK (pickO v118 (NV.bool true) v130) fun v137 =>
 J135 v137 h131) (J135 (NV.tuple []) h131)) fun J132 => gK v118 false (
 bK (eqI v127 (NV.int .i64 (.ofNat 0))) fun v138 =>
 J132 v138 h128) (J132 (NV.tuple []) h128)) fun J129 => gK v118 false (
 bK (lenSl v124) fun v139 =>
 J129 v139 h125) (J129 (NV.tuple []) h125)) fun J126 => gK v118 false (
 bK (ldO 1 false h122 v121) fun v140 =>
 J126 v140 h122) (J126 (NV.tuple []) h122)) fun J123 => gK v118 false (
 bK (fAddr 7 v2) fun v141 =>
 J123 v141 h119) (J123 (NV.tuple []) h119)) fun J120 => gK v111 true (
 J120 v115 h116) (J120 (NV.tuple []) h116)) fun J117 => gK v111 true (
 bK (ldO 1 false h113 v112) fun v142 =>
 J117 v142 h113) (J117 (NV.tuple []) h113)) fun J114 => gK v111 true (
 bK (fAddr 8 v2) fun v143 =>
 J114 v143 h109) (J114 (NV.tuple []) h109)) fun J110 => gK v86 true (
 bK (pickO v96 (NV.bool true) v105) fun v144 =>
 J110 v144 h106) (J110 (NV.tuple []) h106)) fun J107 => gK v96 false (
 bK (notO v102) fun v145 =>
 J107 v145 h103) (J107 (NV.tuple []) h103)) fun J104 => gK v96 false (
 bK (ldO 1 false h100 v99) fun v146 =>
 J104 v146 h100) (J104 (NV.tuple []) h100)) fun J101 => gK v96 false (
 bK (fAddr 8 v2) fun v147 =>
 J101 v147 h97) (J101 (NV.tuple []) h97)) fun J98 => gK v86 true (
 J98 v93 h94) (J98 (NV.tuple []) h94)) fun J95 => gK v86 true (
 bK (eqI v90 (NV.int .i64 (.ofNat 4))) fun v148 =>
 J95 v148 h91) (J95 (NV.tuple []) h91)) fun J92 => gK v86 true (
 bK (ldO 1 false h88 v87) fun v149 =>
 J92 v149 h88) (J92 (NV.tuple []) h88)) fun J89 => gK v86 true (
 bK (fAddr 0 v2) fun v150 =>
 J89 v150 h84) (J89 (NV.tuple []) h84)) fun J85 => gK v76 true (
 mK (calM call 184 [v77, v80] h81) fun v151 h152 =>
 J85 v151 h152) (J85 (NV.tuple []) h81)) fun J82 => gK v76 true (
 bK (bldO [(0, 1), (1, 1)] [(NV.bool false), (NV.bool false), (NV.bool false), (NV.bool false), (NV.bool false)] [(NV.bool true), (NV.bool true)]) fun v153 =>
 J82 v153 h78) (J82 (NV.tuple []) h78)) fun J79 => gK v76 true (
 bK (ldO 9 true h74 v2) fun v154 =>
 J79 v154 h74) (J79 (NV.tuple []) h74)) fun J75 => gK v51 false (
 bK (pickO v61 v70 (NV.bool false)) fun v155 =>
 J75 v155 h71) (J75 (NV.tuple []) h71)) fun J72 => gK v61 true (
 mK (calM call 73 [v67] h68) fun v156 h157 =>
 J72 v156 h157) (J72 (NV.tuple []) h68)) fun J69 => gK v61 true (
 bK (ldO 1 false h65 v64) fun v158 =>
 J69 v158 h65) (J69 (NV.tuple []) h65)) fun J66 => gK v61 true (
 bK (fAddr 2 v2) fun v159 =>
 J66 v159 h62) (J66 (NV.tuple []) h62)) fun J63 => gK v51 false (
 J63 v58 h59) (J63 (NV.tuple []) h59)) fun J60 => gK v51 false (
 bK (eqI v55 (NV.int .i64 (.ofNat 2))) fun v160 =>
 J60 v160 h56) (J60 (NV.tuple []) h56)) fun J57 => gK v51 false (
 bK (ldO 1 false h53 v52) fun v161 =>
 J57 v161 h53) (J57 (NV.tuple []) h53)) fun J54 => gK v51 false (
 bK (fAddr 1 v2) fun v162 =>
 J54 v162 h49) (J54 (NV.tuple []) h49)) fun J50 => gK v26 false (
 bK (pickO v36 v45 (NV.bool false)) fun v163 =>
 J50 v163 h46) (J50 (NV.tuple []) h46)) fun J47 => gK v36 true (
 mK (calM call 71 [v42] h43) fun v164 h165 =>
 J47 v164 h165) (J47 (NV.tuple []) h43)) fun J44 => gK v36 true (
 bK (ldO 1 false h40 v39) fun v166 =>
 J44 v166 h40) (J44 (NV.tuple []) h40)) fun J41 => gK v36 true (
 bK (fAddr 2 v2) fun v167 =>
 J41 v167 h37) (J41 (NV.tuple []) h37)) fun J38 => gK v26 false (
 J38 v33 h34) (J38 (NV.tuple []) h34)) fun J35 => gK v26 false (
 bK (eqI v30 (NV.int .i64 (.ofNat 1))) fun v168 =>
 J35 v168 h31) (J35 (NV.tuple []) h31)) fun J32 => gK v26 false (
 bK (ldO 1 false h28 v27) fun v169 =>
 J32 v169 h28) (J32 (NV.tuple []) h28)) fun J29 => gK v26 false (
 bK (fAddr 1 v2) fun v170 =>
 J29 v170 h24) (J29 (NV.tuple []) h24)) fun J25 => gK v16 true (
 bK (eqI v20 (NV.int .i64 (.ofNat 0))) fun v171 =>
 J25 v171 h21) (J25 (NV.tuple []) h21)) fun J22 => gK v16 true (
 bK (ldO 1 false h18 v17) fun v172 =>
 J22 v172 h18) (J22 (NV.tuple []) h18)) fun J19 => gK v16 true (
 bK (fAddr 2 v2) fun v173 =>
 J19 v173 h12) (J19 (NV.tuple []) h12)) (
 bK (fAddr 6 v2) fun v174 =>
 bK (ldO 1 false h12 v174) fun v175 =>
 bK (lenSl v175) fun v176 =>
 bK (fAddr 7 v2) fun v177 =>
 bK (ldO 1 false h12 v177) fun v178 =>
 bK (lenSl v178) fun v179 =>
 bK (addI v176 v179) fun v180 =>
 bK (gtI v180 (NV.int .i64 (.ofNat 0))) fun v181 =>
 jK (fun v182 h183 =>
 jK (fun v185 h186 =>
 bK (pickO v181 (NV.bool true) v185) fun v188 =>
 condK v188 (
 retC (NV.bool false) h186) (
 bK (eqI v11 (NV.int .i64 (.ofNat 2))) fun v189 =>
 joinC 3 (fun v190 v191 v192 h193 =>
 condK v192 (
 bK (ldO 9 true h193 v190) fun v195 =>
 bK (bldO [(0, 1)] [(NV.bool false), (NV.bool false), (NV.bool false), (NV.bool false), (NV.bool false)] [(NV.bool true)]) fun v196 =>
 mK (calM call 184 [v195, v196] h193) fun v197 h198 =>
 jK (fun v199 h200 =>
 jK (fun v202 h203 =>
 jK (fun v205 h206 =>
 bK (pickO v197 v205 (NV.bool false)) fun v208 =>
 retC v208 h206) fun J207 => gK v197 true (
 mK (calM call 73 [v202] h203) fun v209 h210 =>
 J207 v209 h210) (J207 (NV.tuple []) h203)) fun J204 => gK v197 true (
 bK (ldO 1 false h200 v199) fun v211 =>
 J204 v211 h200) (J204 (NV.tuple []) h200)) fun J201 => gK v197 true (
 bK (fAddr 1 v190) fun v212 =>
 J201 v212 h198) (J201 (NV.tuple []) h198)) (
 bK (eqI v191 (NV.int .i64 (.ofNat 3))) fun v213 =>
 condK v213 (
 bK (ldO 9 true h193 v190) fun v214 =>
 bK (bldO [(0, 1), (4, 1)] [(NV.bool false), (NV.bool false), (NV.bool false), (NV.bool false), (NV.bool false)] [(NV.bool true), (NV.bool true)]) fun v215 =>
 mK (calM call 184 [v214, v215] h193) fun v216 h217 =>
 jK (fun v218 h219 =>
 jK (fun v221 h222 =>
 jK (fun v224 h225 =>
 bK (pickO v216 v224 (NV.bool false)) fun v227 =>
 jK (fun v228 h229 =>
 jK (fun v231 h232 =>
 jK (fun v234 h235 =>
 bK (pickO v227 v234 (NV.bool false)) fun v237 =>
 retC v237 h235) fun J236 => gK v227 true (
 mK (calM call 70 [v231, (NV.func (.func 73) [] [])] h232) fun v238 h239 =>
 J236 v238 h239) (J236 (NV.tuple []) h232)) fun J233 => gK v227 true (
 bK (ldO 1 false h229 v228) fun v240 =>
 J233 v240 h229) (J233 (NV.tuple []) h229)) fun J230 => gK v227 true (
 bK (fAddr 5 v190) fun v241 =>
 J230 v241 h225) (J230 (NV.tuple []) h225)) fun J226 => gK v216 true (
 mK (calM call 73 [v221] h222) fun v242 h243 =>
 J226 v242 h243) (J226 (NV.tuple []) h222)) fun J223 => gK v216 true (
 bK (ldO 1 false h219 v218) fun v244 =>
 J223 v244 h219) (J223 (NV.tuple []) h219)) fun J220 => gK v216 true (
 bK (fAddr 1 v190) fun v245 =>
 J220 v245 h217) (J220 (NV.tuple []) h217)) (
 bK (eqI v191 (NV.int .i64 (.ofNat 5))) fun v246 =>
 joinC 3 (fun v247 v248 v249 h250 =>
 condK v249 (
 bK (ldO 9 true h250 v247) fun v252 =>
 bK (bldO [(0, 1), (1, 1)] [(NV.bool false), (NV.bool false), (NV.bool false), (NV.bool false), (NV.bool false)] [(NV.bool true), (NV.bool true)]) fun v253 =>
 mK (calM call 184 [v252, v253] h250) fun v254 h255 =>
 jK (fun v256 h257 =>
 jK (fun v259 h260 =>
 jK (fun v262 h263 =>
 bK (pickO v254 v262 (NV.bool false)) fun v265 =>
 jK (fun v266 h267 =>
 jK (fun v269 h270 =>
 jK (fun v272 h273 =>
 bK (pickO v265 v272 (NV.bool false)) fun v275 =>
 retC v275 h273) fun J274 => gK v265 true (
 mK (calM call 73 [v269] h270) fun v276 h277 =>
 J274 v276 h277) (J274 (NV.tuple []) h270)) fun J271 => gK v265 true (
 bK (ldO 1 false h267 v266) fun v278 =>
 J271 v278 h267) (J271 (NV.tuple []) h267)) fun J268 => gK v265 true (
 bK (fAddr 2 v247) fun v279 =>
 J268 v279 h263) (J268 (NV.tuple []) h263)) fun J264 => gK v254 true (
 mK (calM call 73 [v259] h260) fun v280 h281 =>
 J264 v280 h281) (J264 (NV.tuple []) h260)) fun J261 => gK v254 true (
 bK (ldO 1 false h257 v256) fun v282 =>
 J261 v282 h257) (J261 (NV.tuple []) h257)) fun J258 => gK v254 true (
 bK (fAddr 1 v247) fun v283 =>
 J258 v283 h255) (J258 (NV.tuple []) h255)) (
 bK (eqI v248 (NV.int .i64 (.ofNat 26))) fun v284 =>
 condK v284 (
 bK (ldO 9 true h250 v247) fun v285 =>
 bK (bldO [(0, 1), (1, 1), (4, 1)] [(NV.bool false), (NV.bool false), (NV.bool false), (NV.bool false), (NV.bool false)] [(NV.bool true), (NV.bool true), (NV.bool true)]) fun v286 =>
 mK (calM call 184 [v285, v286] h250) fun v287 h288 =>
 jK (fun v289 h290 =>
 jK (fun v292 h293 =>
 jK (fun v295 h296 =>
 bK (pickO v287 v295 (NV.bool false)) fun v298 =>
 jK (fun v299 h300 =>
 jK (fun v302 h303 =>
 jK (fun v305 h306 =>
 bK (pickO v298 v305 (NV.bool false)) fun v308 =>
 jK (fun v309 h310 =>
 jK (fun v312 h313 =>
 jK (fun v315 h316 =>
 jK (fun v318 h319 =>
 bK (pickO v308 v318 (NV.bool false)) fun v321 =>
 jK (fun v322 h323 =>
 jK (fun v325 h326 =>
 jK (fun v328 h329 =>
 jK (fun v331 h332 =>
 jK (fun v334 h335 =>
 bK (pickO v321 v334 (NV.bool false)) fun v337 =>
 retC v337 h335) fun J336 => gK v321 true (
 mK (calM call 185 [v331] h332) fun v338 h339 =>
 J336 v338 h339) (J336 (NV.tuple []) h332)) fun J333 => gK v321 true (
 bK (ldO 1 false h329 v328) fun v340 =>
 J333 v340 h329) (J333 (NV.tuple []) h329)) fun J330 => gK v321 true (
 bK (ixS 1 v325 (NV.int .i64 (.ofNat 0))) fun v341 =>
 J330 v341 h326) (J330 (NV.tuple []) h326)) fun J327 => gK v321 true (
 bK (ldO 1 false h323 v322) fun v342 =>
 J327 v342 h323) (J327 (NV.tuple []) h323)) fun J324 => gK v321 true (
 bK (fAddr 5 v247) fun v343 =>
 J324 v343 h319) (J324 (NV.tuple []) h319)) fun J320 => gK v308 true (
 bK (eqI v315 (NV.int .i64 (.ofNat 1))) fun v344 =>
 J320 v344 h316) (J320 (NV.tuple []) h316)) fun J317 => gK v308 true (
 bK (lenSl v312) fun v345 =>
 J317 v345 h313) (J317 (NV.tuple []) h313)) fun J314 => gK v308 true (
 bK (ldO 1 false h310 v309) fun v346 =>
 J314 v346 h310) (J314 (NV.tuple []) h310)) fun J311 => gK v308 true (
 bK (fAddr 5 v247) fun v347 =>
 J311 v347 h306) (J311 (NV.tuple []) h306)) fun J307 => gK v298 true (
 mK (calM call 73 [v302] h303) fun v348 h349 =>
 J307 v348 h349) (J307 (NV.tuple []) h303)) fun J304 => gK v298 true (
 bK (ldO 1 false h300 v299) fun v350 =>
 J304 v350 h300) (J304 (NV.tuple []) h300)) fun J301 => gK v298 true (
 bK (fAddr 2 v247) fun v351 =>
 J301 v351 h296) (J301 (NV.tuple []) h296)) fun J297 => gK v287 true (
 mK (calM call 73 [v292] h293) fun v352 h353 =>
 J297 v352 h353) (J297 (NV.tuple []) h293)) fun J294 => gK v287 true (
 bK (ldO 1 false h290 v289) fun v354 =>
 J294 v354 h290) (J294 (NV.tuple []) h290)) fun J291 => gK v287 true (
 bK (fAddr 1 v247) fun v355 =>
 J291 v355 h288) (J291 (NV.tuple []) h288)) (
 bK (eqI v248 (NV.int .i64 (.ofNat 6))) fun v356 =>
 condK v356 (
 bK (ldO 9 true h250 v247) fun v357 =>
 bK (bldO [(4, 1)] [(NV.bool false), (NV.bool false), (NV.bool false), (NV.bool false), (NV.bool false)] [(NV.bool true)]) fun v358 =>
 mK (calM call 184 [v357, v358] h250) fun v359 h360 =>
 jK (fun v361 h362 =>
 jK (fun v364 h365 =>
 jK (fun v367 h368 =>
 bK (pickO v359 v367 (NV.bool false)) fun v370 =>
 retC v370 h368) fun J369 => gK v359 true (
 mK (calM call 70 [v364, (NV.func (.func 71) [] [])] h365) fun v371 h372 =>
 J369 v371 h372) (J369 (NV.tuple []) h365)) fun J366 => gK v359 true (
 bK (ldO 1 false h362 v361) fun v373 =>
 J366 v373 h362) (J366 (NV.tuple []) h362)) fun J363 => gK v359 true (
 bK (fAddr 5 v247) fun v374 =>
 J363 v374 h360) (J363 (NV.tuple []) h360)) (
 bK (eqI v248 (NV.int .i64 (.ofNat 12))) fun v375 =>
 joinC 3 (fun v376 v377 v378 h379 =>
 condK v378 (
 bK (ldO 9 true h379 v376) fun v381 =>
 bK (bldO [(2, 1)] [(NV.bool false), (NV.bool false), (NV.bool false), (NV.bool false), (NV.bool false)] [(NV.bool true)]) fun v382 =>
 mK (calM call 184 [v381, v382] h379) fun v383 h384 =>
 jK (fun v385 h386 =>
 jK (fun v388 h389 =>
 jK (fun v391 h392 =>
 bK (pickO v383 v391 (NV.bool false)) fun v394 =>
 retC v394 h392) fun J393 => gK v383 true (
 bK (ltI v388 (NV.int .u64 (.ofNat 4294967296))) fun v395 =>
 J393 v395 h389) (J393 (NV.tuple []) h389)) fun J390 => gK v383 true (
 bK (ldO 1 false h386 v385) fun v396 =>
 J390 v396 h386) (J390 (NV.tuple []) h386)) fun J387 => gK v383 true (
 bK (fAddr 3 v376) fun v397 =>
 J387 v397 h384) (J387 (NV.tuple []) h384)) (
 bK (eqI v377 (NV.int .i64 (.ofNat 13))) fun v398 =>
 joinC 3 (fun v399 v400 v401 h402 =>
 condK v401 (
 bK (ldO 9 true h402 v399) fun v404 =>
 bK (bldO [(2, 1)] [(NV.bool false), (NV.bool false), (NV.bool false), (NV.bool false), (NV.bool false)] [(NV.bool true)]) fun v405 =>
 mK (calM call 184 [v404, v405] h402) fun v406 h407 =>
 retC v406 h407) (
 bK (eqI v400 (NV.int .i64 (.ofNat 23))) fun v408 =>
 condK v408 (
 bK (ldO 9 true h402 v399) fun v409 =>
 bK (bldO [(2, 1), (3, 1)] [(NV.bool false), (NV.bool false), (NV.bool false), (NV.bool false), (NV.bool false)] [(NV.bool true), (NV.bool true)]) fun v410 =>
 mK (calM call 184 [v409, v410] h402) fun v411 h412 =>
 retC v411 h412) (
 bK (eqI v400 (NV.int .i64 (.ofNat 16))) fun v413 =>
 condK v413 (
 bK (ldO 9 true h402 v399) fun v414 =>
 bK (bldO [(0, 1)] [(NV.bool false), (NV.bool false), (NV.bool false), (NV.bool false), (NV.bool false)] [(NV.bool true)]) fun v415 =>
 mK (calM call 184 [v414, v415] h402) fun v416 h417 =>
 jK (fun v418 h419 =>
 jK (fun v421 h422 =>
 jK (fun v424 h425 =>
 bK (pickO v416 v424 (NV.bool false)) fun v427 =>
 retC v427 h425) fun J426 => gK v416 true (
 mK (calM call 80 [v421] h422) fun v428 h429 =>
 J426 v428 h429) (J426 (NV.tuple []) h422)) fun J423 => gK v416 true (
 bK (ldO 1 false h419 v418) fun v430 =>
 J423 v430 h419) (J423 (NV.tuple []) h419)) fun J420 => gK v416 true (
 bK (fAddr 1 v399) fun v431 =>
 J420 v431 h417) (J420 (NV.tuple []) h417)) (
 bK (eqI v400 (NV.int .i64 (.ofNat 24))) fun v432 =>
 condK v432 (
 bK (ldO 9 true h402 v399) fun v433 =>
 bK (bldO [(4, 1)] [(NV.bool false), (NV.bool false), (NV.bool false), (NV.bool false), (NV.bool false)] [(NV.bool true)]) fun v434 =>
 mK (calM call 184 [v433, v434] h402) fun v435 h436 =>
 jK (fun v437 h438 =>
 jK (fun v440 h441 =>
 jK (fun v443 h444 =>
 jK (fun v446 h447 =>
 bK (pickO v435 v446 (NV.bool false)) fun v449 =>
 jK (fun v450 h451 =>
 jK (fun v453 h454 =>
 jK (fun v456 h457 =>
 bK (pickO v449 v456 (NV.bool false)) fun v459 =>
 retC v459 h457) fun J458 => gK v449 true (
 mK (calM call 70 [v453, (NV.func (.func 185) [] [])] h454) fun v460 h461 =>
 J458 v460 h461) (J458 (NV.tuple []) h454)) fun J455 => gK v449 true (
 bK (ldO 1 false h451 v450) fun v462 =>
 J455 v462 h451) (J455 (NV.tuple []) h451)) fun J452 => gK v449 true (
 bK (fAddr 5 v399) fun v463 =>
 J452 v463 h447) (J452 (NV.tuple []) h447)) fun J448 => gK v435 true (
 bK (eqI v443 (NV.int .i64 (.ofNat 16))) fun v464 =>
 J448 v464 h444) (J448 (NV.tuple []) h444)) fun J445 => gK v435 true (
 bK (lenSl v440) fun v465 =>
 J445 v465 h441) (J445 (NV.tuple []) h441)) fun J442 => gK v435 true (
 bK (ldO 1 false h438 v437) fun v466 =>
 J442 v466 h438) (J442 (NV.tuple []) h438)) fun J439 => gK v435 true (
 bK (fAddr 5 v399) fun v467 =>
 J439 v467 h436) (J439 (NV.tuple []) h436)) (
 bK (eqI v400 (NV.int .i64 (.ofNat 25))) fun v468 =>
 condK v468 (
 bK (ldO 9 true h402 v399) fun v469 =>
 bK (bldO [(0, 1)] [(NV.bool false), (NV.bool false), (NV.bool false), (NV.bool false), (NV.bool false)] [(NV.bool true)]) fun v470 =>
 mK (calM call 184 [v469, v470] h402) fun v471 h472 =>
 jK (fun v473 h474 =>
 jK (fun v476 h477 =>
 jK (fun v479 h480 =>
 bK (pickO v471 v479 (NV.bool false)) fun v482 =>
 retC v482 h480) fun J481 => gK v471 true (
 mK (calM call 185 [v476] h477) fun v483 h484 =>
 J481 v483 h484) (J481 (NV.tuple []) h477)) fun J478 => gK v471 true (
 bK (ldO 1 false h474 v473) fun v485 =>
 J478 v485 h474) (J478 (NV.tuple []) h474)) fun J475 => gK v471 true (
 bK (fAddr 1 v399) fun v486 =>
 J475 v486 h472) (J475 (NV.tuple []) h472)) (
 bK (ldO 9 true h402 v399) fun v487 =>
 bK (bldO [] [(NV.bool false), (NV.bool false), (NV.bool false), (NV.bool false), (NV.bool false)] []) fun v488 =>
 mK (calM call 184 [v487, v488] h402) fun v489 h490 =>
 retC v489 h490)))))) fun J403 =>
 condK v398 (
 J403 v376 v377 v398 h379) (
 bK (eqI v377 (NV.int .i64 (.ofNat 15))) fun v491 =>
 J403 v376 v377 v491 h379))) fun J380 =>
 condK v375 (
 J380 v247 v248 v375 h250) (
 bK (eqI v248 (NV.int .i64 (.ofNat 14))) fun v492 =>
 J380 v247 v248 v492 h250))))) fun J251 =>
 condK v246 (
 J251 v190 v191 v246 h193) (
 bK (eqI v191 (NV.int .i64 (.ofNat 20))) fun v493 =>
 condK v493 (
 J251 v190 v191 v493 h193) (
 bK (eqI v191 (NV.int .i64 (.ofNat 22))) fun v494 =>
 condK v494 (
 J251 v190 v191 v494 h193) (
 bK (eqI v191 (NV.int .i64 (.ofNat 10))) fun v495 =>
 J251 v190 v191 v495 h193)))))) fun J194 =>
 condK v189 (
 J194 v2 v11 v189 h186) (
 bK (eqI v11 (NV.int .i64 (.ofNat 4))) fun v496 =>
 condK v496 (
 J194 v2 v11 v496 h186) (
 bK (eqI v11 (NV.int .i64 (.ofNat 7))) fun v497 =>
 condK v497 (
 J194 v2 v11 v497 h186) (
 bK (eqI v11 (NV.int .i64 (.ofNat 8))) fun v498 =>
 condK v498 (
 J194 v2 v11 v498 h186) (
 bK (eqI v11 (NV.int .i64 (.ofNat 9))) fun v499 =>
 condK v499 (
 J194 v2 v11 v499 h186) (
 bK (eqI v11 (NV.int .i64 (.ofNat 17))) fun v500 =>
 condK v500 (
 J194 v2 v11 v500 h186) (
 bK (eqI v11 (NV.int .i64 (.ofNat 18))) fun v501 =>
 condK v501 (
 J194 v2 v11 v501 h186) (
 bK (eqI v11 (NV.int .i64 (.ofNat 21))) fun v502 =>
 J194 v2 v11 v502 h186))))))))) fun J187 => gK v181 false (
 bK (ldO 1 false h183 v182) fun v503 =>
 J187 v503 h183) (J187 (NV.tuple []) h183)) fun J184 => gK v181 false (
 bK (fAddr 8 v2) fun v504 =>
 J184 v504 h12) (J184 (NV.tuple []) h12))))
theorem e129 : ikB Tryz.prog 9 Tryz.f129 = S129 := by kernel_rfl
theorem k129 [Sig] (w0 : World) : SOK cW w0 129 S129 := okW Tryz.func129 (by kernel_rfl) e129
noncomputable def S131 (call : CallF) (N : Nat) (l : List NV) (h : H) : R :=
 uc l fun v0 l1 => uc l1 fun v2 l3 => un l3 (
 bK (ldO 1 false h v2) fun v4 =>
 mK (calV call v4 [v0] h) fun v5 h6 =>
 bK (notO v5) fun v7 =>
 retC v7 h6)
theorem e131 : ikB Tryz.prog 9 Tryz.f131 = S131 := by kernel_rfl
theorem k131 [Sig] (w0 : World) : SOK cW w0 131 S131 := okW Tryz.func131 (by kernel_rfl) e131
noncomputable def S130 (call : CallF) (N : Nat) (l : List NV) (h : H) : R :=
 uc l fun v0 l1 => uc l1 fun v2 l3 => un l3 (
 mK (calM call 186 [v0, v2] h) fun v4 h5 =>
 bK (geI v4 (NV.int .i64 (.ofNat 0))) fun v6 =>
 retC v6 h5)
theorem e130 : ikB Tryz.prog 9 Tryz.f130 = S130 := by kernel_rfl
theorem k130 [Sig] (w0 : World) : SOK cW w0 130 S130 := okW Tryz.func130 (by kernel_rfl) e130
noncomputable def S187 (call : CallF) (N : Nat) (l : List NV) (h : H) : R :=
 uc l fun v0 l1 => uc l1 fun v2 l3 => un l3 (
 bK (lenSl v0) fun v4 =>
 joinC 0 (fun h5 =>
 retC (NV.int .i64 (.negSucc 0)) h5) fun J6 =>
 loopC N 4 (fun L12 v7 v8 v9 v10 h11 =>
 bK (ltI v10 v9) fun v13 =>
 condK v13 (
 bK (ixS 2 v7 v10) fun v14 =>
 bK (ldO 2 true h11 v14) fun v15 =>
 mK (calV call v8 [v15] h11) fun v16 h17 =>
 condK v16 (
 retC v10 h17) (
 bK (addI v10 (NV.int .i64 (.ofNat 1))) fun v18 =>
 L12 v7 v8 v9 v18 h17)) (
 J6 h11)) v0 v2 v4 (NV.int .i64 (.ofNat 0)) h)
theorem e187 : ikB Tryz.prog 9 Tryz.f187 = S187 := by kernel_rfl
theorem k187 [Sig] (w0 : World) : SOK cW w0 187 S187 := okW Tryz.func187 (by kernel_rfl) e187
noncomputable def S188 (call : CallF) (N : Nat) (l : List NV) (h : H) : R :=
 uc l fun v0 l1 => uc l1 fun v2 l3 => un l3 (
 bK (lenSl v0) fun v4 =>
 joinC 0 (fun h5 =>
 retC (NV.int .i64 (.negSucc 0)) h5) fun J6 =>
 loopC N 4 (fun L12 v7 v8 v9 v10 h11 =>
 bK (ltI v10 v9) fun v13 =>
 condK v13 (
 bK (ixS 13 v7 v10) fun v14 =>
 bK (ldO 13 true h11 v14) fun v15 =>
 mK (calV call v8 [v15] h11) fun v16 h17 =>
 condK v16 (
 retC v10 h17) (
 bK (addI v10 (NV.int .i64 (.ofNat 1))) fun v18 =>
 L12 v7 v8 v9 v18 h17)) (
 J6 h11)) v0 v2 v4 (NV.int .i64 (.ofNat 0)) h)
theorem e188 : ikB Tryz.prog 9 Tryz.f188 = S188 := by kernel_rfl
theorem k188 [Sig] (w0 : World) : SOK cW w0 188 S188 := okW Tryz.func188 (by kernel_rfl) e188
noncomputable def S189 (call : CallF) (N : Nat) (l : List NV) (h : H) : R :=
 uc l fun v0 l1 => uc l1 fun v2 l3 => un l3 (
 bK (lenSl v0) fun v4 =>
 joinC 0 (fun h5 =>
 retC (NV.int .i64 (.negSucc 0)) h5) fun J6 =>
 loopC N 4 (fun L12 v7 v8 v9 v10 h11 =>
 bK (ltI v10 v9) fun v13 =>
 condK v13 (
 bK (ixS 3 v7 v10) fun v14 =>
 bK (ldO 3 true h11 v14) fun v15 =>
 mK (calV call v8 [v15] h11) fun v16 h17 =>
 condK v16 (
 retC v10 h17) (
 bK (addI v10 (NV.int .i64 (.ofNat 1))) fun v18 =>
 L12 v7 v8 v9 v18 h17)) (
 J6 h11)) v0 v2 v4 (NV.int .i64 (.ofNat 0)) h)
theorem e189 : ikB Tryz.prog 9 Tryz.f189 = S189 := by kernel_rfl
theorem k189 [Sig] (w0 : World) : SOK cW w0 189 S189 := okW Tryz.func189 (by kernel_rfl) e189
noncomputable def S190 (call : CallF) (N : Nat) (l : List NV) (h : H) : R :=
 uc l fun v0 l1 => uc l1 fun v2 l3 => un l3 (
 bK (lenSl v0) fun v4 =>
 joinC 0 (fun h5 =>
 retC (NV.int .i64 (.negSucc 0)) h5) fun J6 =>
 loopC N 4 (fun L12 v7 v8 v9 v10 h11 =>
 bK (ltI v10 v9) fun v13 =>
 condK v13 (
 bK (ixS 3 v7 v10) fun v14 =>
 bK (ldO 3 true h11 v14) fun v15 =>
 mK (calV call v8 [v15] h11) fun v16 h17 =>
 condK v16 (
 retC v10 h17) (
 bK (addI v10 (NV.int .i64 (.ofNat 1))) fun v18 =>
 L12 v7 v8 v9 v18 h17)) (
 J6 h11)) v0 v2 v4 (NV.int .i64 (.ofNat 0)) h)
theorem e190 : ikB Tryz.prog 9 Tryz.f190 = S190 := by kernel_rfl
theorem k190 [Sig] (w0 : World) : SOK cW w0 190 S190 := okW Tryz.func190 (by kernel_rfl) e190
noncomputable def S191 (call : CallF) (N : Nat) (l : List NV) (h : H) : R :=
 uc l fun v0 l1 => uc l1 fun v2 l3 => un l3 (
 bK (lenSl v0) fun v4 =>
 joinC 0 (fun h5 =>
 retC (NV.int .i64 (.negSucc 0)) h5) fun J6 =>
 loopC N 4 (fun L12 v7 v8 v9 v10 h11 =>
 bK (ltI v10 v9) fun v13 =>
 condK v13 (
 bK (ixS 3 v7 v10) fun v14 =>
 bK (ldO 3 true h11 v14) fun v15 =>
 mK (calV call v8 [v15] h11) fun v16 h17 =>
 condK v16 (
 retC v10 h17) (
 bK (addI v10 (NV.int .i64 (.ofNat 1))) fun v18 =>
 L12 v7 v8 v9 v18 h17)) (
 J6 h11)) v0 v2 v4 (NV.int .i64 (.ofNat 0)) h)
theorem e191 : ikB Tryz.prog 9 Tryz.f191 = S191 := by kernel_rfl
theorem k191 [Sig] (w0 : World) : SOK cW w0 191 S191 := okW Tryz.func191 (by kernel_rfl) e191
noncomputable def S192 (call : CallF) (N : Nat) (l : List NV) (h : H) : R :=
 uc l fun v0 l1 => uc l1 fun v2 l3 => un l3 (
 bK (lenSl v0) fun v4 =>
 joinC 0 (fun h5 =>
 retC (NV.int .i64 (.negSucc 0)) h5) fun J6 =>
 loopC N 4 (fun L12 v7 v8 v9 v10 h11 =>
 bK (ltI v10 v9) fun v13 =>
 condK v13 (
 bK (ixS 5 v7 v10) fun v14 =>
 bK (ldO 5 true h11 v14) fun v15 =>
 mK (calV call v8 [v15] h11) fun v16 h17 =>
 condK v16 (
 retC v10 h17) (
 bK (addI v10 (NV.int .i64 (.ofNat 1))) fun v18 =>
 L12 v7 v8 v9 v18 h17)) (
 J6 h11)) v0 v2 v4 (NV.int .i64 (.ofNat 0)) h)
theorem e192 : ikB Tryz.prog 9 Tryz.f192 = S192 := by kernel_rfl
theorem k192 [Sig] (w0 : World) : SOK cW w0 192 S192 := okW Tryz.func192 (by kernel_rfl) e192
noncomputable def S193 (call : CallF) (N : Nat) (l : List NV) (h : H) : R :=
 uc l fun v0 l1 => uc l1 fun v2 l3 => un l3 (
 bK (lenSl v0) fun v4 =>
 joinC 0 (fun h5 =>
 retC (NV.int .i64 (.negSucc 0)) h5) fun J6 =>
 loopC N 4 (fun L12 v7 v8 v9 v10 h11 =>
 bK (ltI v10 v9) fun v13 =>
 condK v13 (
 bK (ixS 4 v7 v10) fun v14 =>
 bK (ldO 4 true h11 v14) fun v15 =>
 mK (calV call v8 [v15] h11) fun v16 h17 =>
 condK v16 (
 retC v10 h17) (
 bK (addI v10 (NV.int .i64 (.ofNat 1))) fun v18 =>
 L12 v7 v8 v9 v18 h17)) (
 J6 h11)) v0 v2 v4 (NV.int .i64 (.ofNat 0)) h)
theorem e193 : ikB Tryz.prog 9 Tryz.f193 = S193 := by kernel_rfl
theorem k193 [Sig] (w0 : World) : SOK cW w0 193 S193 := okW Tryz.func193 (by kernel_rfl) e193
noncomputable def S194 (call : CallF) (N : Nat) (l : List NV) (h : H) : R :=
 uc l fun v0 l1 => uc l1 fun v2 l3 => un l3 (
 bK (ltI v2 (NV.int .i64 (.ofNat 0))) fun v4 =>
 joinC 2 (fun v5 v6 h7 =>
 bK (capO v5) fun v9 =>
 bK (lenSl v5) fun v10 =>
 bK (subI v9 v10) fun v11 =>
 bK (subI v6 v11) fun v12 =>
 bK (gtI v12 (NV.int .i64 (.ofNat 0))) fun v13 =>
 joinC 1 (fun v14 h15 =>
 retC v14 h15) fun J16 =>
 condK v13 (
 bK (capO v5) fun v17 =>
 bK (slcO Tryz.prog 41 h7 v5 none (some v17) none) fun v18 =>
 mK (zapM Tryz.prog 3 v18 v12 h7) fun v19 h20 =>
 bK (lenSl v5) fun v21 =>
 bK (slcO Tryz.prog 41 h20 v19 none (some v21) none) fun v22 =>
 J16 v22 h20) (
 J16 v5 h7)) fun J8 =>
 condK v4 (
 none /- panic -/) (
 J8 v0 v2 h))
theorem e194 : ikB Tryz.prog 9 Tryz.f194 = S194 := by kernel_rfl
theorem k194 [Sig] (w0 : World) : SOK cW w0 194 S194 := okW Tryz.func194 (by kernel_rfl) e194
noncomputable def S195 (call : CallF) (N : Nat) (l : List NV) (h : H) : R :=
 uc l fun v0 l1 => uc l1 fun v2 l3 => un l3 (
 mK (boxM false v2 h) fun v4 h5 =>
 bK (fAddr 0 v4) fun v6 =>
 bK (ldO 1 false h5 v6) fun v7 =>
 mK (calM call 28 [v7] h5) fun v8 h9 =>
 bK (extO 0 v8) fun v10 =>
 bK (extO 1 v8) fun v11 =>
 bK (extO 2 v8) fun v12 =>
 condK v12 (
 bK (ldO 9 true h9 v4) fun v13 =>
 mK (calM call 254 [v0, v13] h9) fun v14 h15 =>
 mK (calM call 197 [v0, v14] h15) fun v16 h17 =>
 mK (calM call 196 [v0, v10] h17) fun v18 h19 =>
 mK (calM call 255 [v0, v11] h19) fun v20 h21 =>
 retC (NV.tuple []) h21) (
 bK (fAddr 0 v4) fun v22 =>
 bK (ldO 1 false h9 v22) fun v23 =>
 bK (eqI v23 (NV.int .i64 (.ofNat 2))) fun v24 =>
 joinC 4 (fun v25 v26 v27 v28 h29 =>
 condK v28 (
 bK (ldO 9 true h29 v26) fun v31 =>
 mK (calM call 256 [v25, v31] h29) fun v32 h33 =>
 retC (NV.tuple []) h33) (
 bK (eqI v27 (NV.int .i64 (.ofNat 0))) fun v34 =>
 joinC 4 (fun v35 v36 v37 v38 h39 =>
 condK v38 (
 bK (ldO 9 true h39 v36) fun v41 =>
 mK (calM call 257 [v35, v41] h39) fun v42 h43 =>
 retC (NV.tuple []) h43) (
 bK (eqI v37 (NV.int .i64 (.ofNat 26))) fun v44 =>
 joinC 4 (fun v45 v46 v47 v48 h49 =>
 condK v48 (
 bK (ldO 9 true h49 v46) fun v51 =>
 mK (calM call 258 [v45, v51] h49) fun v52 h53 =>
 retC (NV.tuple []) h53) (
 bK (eqI v47 (NV.int .i64 (.ofNat 32))) fun v54 =>
 joinC 4 (fun v55 v56 v57 v58 h59 =>
 condK v58 (
 bK (fAddr 1 v56) fun v61 =>
 bK (ldO 1 false h59 (chkV h59 v61)) fun v62 =>
 bK (nilO v55) fun v63 =>
 bK (fAddr 1 v63) fun v64 =>
 bK (ldO 1 false h59 (chkV h59 v64)) fun v65 =>
 bK (lenSl v65) fun v66 =>
 bK (ltI v62 v66) fun v67 =>
 mK (calM call 197 [(chkV h59 v55), (chkV h59 v67)] h59) fun v68 h69 =>
 nextK h59 h69 (
 bK (nilO v55) fun v70 =>
 bK (fAddr 6 v70) fun v71 =>
 bK (ldO 1 false h69 v71) fun v72 =>
 condK v72 (
 bK (fAddr 0 v56) fun v73 =>
 bK (ldO 1 false h69 (chkV h69 v73)) fun v74 =>
 bK (subI v74 (NV.int .i64 (.ofNat 32))) fun v75 =>
 bK (nilO v55) fun v76 =>
 bK (fAddr 1 v76) fun v77 =>
 bK (ldO 1 false h69 (chkV h69 v77)) fun v78 =>
 bK (fAddr 1 v56) fun v79 =>
 bK (ldO 1 false h69 (chkV h69 v79)) fun v80 =>
 bK (ixS 1 v78 v80) fun v81 =>
 bK (ldO 1 false h69 (chkV h69 v81)) fun v82 =>
 mK (calM call 259 [(chkV h69 v55), (chkV h69 v75), (chkV h69 v82)] h69) fun v83 h84 =>
 nextK h69 h84 (
 retC (NV.tuple []) h84)) (
 retC (NV.tuple []) h69))) (
 bK (eqI v57 (NV.int .i64 (.ofNat 35))) fun v85 =>
 joinC 4 (fun v86 v87 v88 v89 h90 =>
 condK v89 (
 bK (fAddr 1 v87) fun v92 =>
 bK (ldO 1 false h90 (chkV h90 v92)) fun v93 =>
 bK (nilO v86) fun v94 =>
 bK (fAddr 0 v94) fun v95 =>
 bK (ldO 1 false h90 (chkV h90 v95)) fun v96 =>
 bK (nilO v96) fun v97 =>
 bK (fAddr 14 v97) fun v98 =>
 bK (ldO 1 false h90 (chkV h90 v98)) fun v99 =>
 bK (lenSl v99) fun v100 =>
 bK (ltI v93 v100) fun v101 =>
 jK (fun v102 h103 =>
 jK (fun v105 h106 =>
 jK (fun v108 h109 =>
 jK (fun v111 h112 =>
 jK (fun v114 h115 =>
 jK (fun v117 h118 =>
 jK (fun v120 h121 =>
 jK (fun v123 h124 =>
 jK (fun v126 h127 =>
 jK (fun v129 h130 =>
 jK (fun v132 h133 =>
 jK (fun v135 h136 =>
 jK (fun v138 h139 =>
 jK (fun v141 h142 =>
 jK (fun v144 h145 =>
 jK (fun v147 h148 =>
 jK (fun v150 h151 =>
 bK (pickO v101 v150 (NV.bool false)) fun v153 =>
 mK (calM call 197 [(chkV h90 v86), (chkV h90 v153)] h90) fun v154 h155 =>
 nextK h90 h155 (
 bK (nilO v86) fun v156 =>
 bK (fAddr 6 v156) fun v157 =>
 bK (ldO 1 false h155 v157) fun v158 =>
 condK v158 (
 bK (fAddr 0 v87) fun v159 =>
 bK (ldO 1 false h155 (chkV h155 v159)) fun v160 =>
 bK (subI v160 (NV.int .i64 (.ofNat 35))) fun v161 =>
 bK (nilO v86) fun v162 =>
 bK (fAddr 0 v162) fun v163 =>
 bK (ldO 1 false h155 (chkV h155 v163)) fun v164 =>
 bK (nilO v164) fun v165 =>
 bK (fAddr 14 v165) fun v166 =>
 bK (ldO 1 false h155 (chkV h155 v166)) fun v167 =>
 bK (fAddr 1 v87) fun v168 =>
 bK (ldO 1 false h155 (chkV h155 v168)) fun v169 =>
 bK (ixS 2 v167 v169) fun v170 =>
 bK (fAddr 0 v170) fun v171 =>
 bK (ldO 1 false h155 (chkV h155 v171)) fun v172 =>
 mK (calM call 259 [(chkV h155 v86), (chkV h155 v161), (chkV h155 v172)] h155) fun v173 h174 =>
 nextK h155 h174 (
 retC (NV.tuple []) h174)) (
 retC (NV.tuple []) h155))) fun J152 => gK v101 true (
 bK (pickO v111 (NV.bool true) v147) fun v175 =>
 J152 v175 h90) (J152 (NV.tuple []) h90)) fun J149 => gK v111 false (
 bK (ldO 1 false h90 (chkV h90 v144)) fun v176 =>
 J149 v176 h90) (J149 (NV.tuple []) h90)) fun J146 => gK v111 false (
 bK (fAddr 1 v141) fun v177 =>
 J146 v177 h90) (J146 (NV.tuple []) h90)) fun J143 => gK v111 false (
 bK (ixS 2 v132 v138) fun v178 =>
 J143 v178 h90) (J143 (NV.tuple []) h90)) fun J140 => gK v111 false (
 bK (ldO 1 false h90 (chkV h90 v135)) fun v179 =>
 J140 v179 h90) (J140 (NV.tuple []) h90)) fun J137 => gK v111 false (
 bK (fAddr 1 v87) fun v180 =>
 J137 v180 h90) (J137 (NV.tuple []) h90)) fun J134 => gK v111 false (
 bK (ldO 1 false h90 (chkV h90 v129)) fun v181 =>
 J134 v181 h90) (J134 (NV.tuple []) h90)) fun J131 => gK v111 false (
 bK (fAddr 14 v126) fun v182 =>
 J131 v182 h90) (J131 (NV.tuple []) h90)) fun J128 => gK v111 false (
 bK (nilO v123) fun v183 =>
 J128 v183 h90) (J128 (NV.tuple []) h90)) fun J125 => gK v111 false (
 bK (ldO 1 false h90 (chkV h90 v120)) fun v184 =>
 J125 v184 h90) (J125 (NV.tuple []) h90)) fun J122 => gK v111 false (
 bK (fAddr 0 v117) fun v185 =>
 J122 v185 h90) (J122 (NV.tuple []) h90)) fun J119 => gK v111 false (
 bK (nilO v114) fun v186 =>
 J119 v186 h90) (J119 (NV.tuple []) h90)) fun J116 => gK v111 false (
 J116 v86 h90) (J116 (NV.tuple []) h90)) fun J113 => gK v101 true (
 J113 v108 h90) (J113 (NV.tuple []) h90)) fun J110 => gK v101 true (
 bK (eqI v105 (NV.int .i64 (.ofNat 35))) fun v187 =>
 J110 v187 h90) (J110 (NV.tuple []) h90)) fun J107 => gK v101 true (
 bK (ldO 1 false h90 (chkV h90 v102)) fun v188 =>
 J107 v188 h90) (J107 (NV.tuple []) h90)) fun J104 => gK v101 true (
 bK (fAddr 0 v87) fun v189 =>
 J104 v189 h90) (J104 (NV.tuple []) h90)) (
 bK (eqI v88 (NV.int .i64 (.ofNat 208))) fun v190 =>
 condK v190 (
 bK (fAddr 1 v87) fun v191 =>
 bK (ldO 1 false h90 v191) fun v192 =>
 mK (bslM 1 false [(0, 1)] [(NV.int .i64 (.ofNat 0))] [v192] h90) fun v193 h194 =>
 mK (calM call 255 [v86, v193] h194) fun v195 h196 =>
 retC (NV.tuple []) h196) (
 bK (eqI v88 (NV.int .i64 (.ofNat 209))) fun v197 =>
 condK v197 (
 mK (calM call 260 [v86] h90) fun v198 h199 =>
 bK (eqI v198 (NV.int .i64 (.ofNat 0))) fun v200 =>
 jK (fun v201 h202 =>
 jK (fun v204 h205 =>
 bK (pickO v200 (NV.bool true) v204) fun v207 =>
 jK (fun v208 h209 =>
 jK (fun v211 h212 =>
 bK (pickO v207 (NV.bool true) v211) fun v214 =>
 mK (calM call 197 [v86, v214] h212) fun v215 h216 =>
 mK (bslM 1 false [(0, 1)] [(NV.int .i64 (.ofNat 0))] [(NV.int .i64 (.ofNat 127))] h216) fun v217 h218 =>
 mK (calM call 255 [v86, v217] h218) fun v219 h220 =>
 retC (NV.tuple []) h220) fun J213 => gK v207 false (
 bK (eqI v208 (NV.int .i64 (.ofNat 111))) fun v221 =>
 J213 v221 h209) (J213 (NV.tuple []) h209)) fun J210 => gK v207 false (
 J210 v198 h205) (J210 (NV.tuple []) h205)) fun J206 => gK v200 false (
 bK (eqI v201 (NV.int .i64 (.ofNat 112))) fun v222 =>
 J206 v222 h202) (J206 (NV.tuple []) h202)) fun J203 => gK v200 false (
 J203 v198 h199) (J203 (NV.tuple []) h199)) (
 bK (ldO 9 true h90 v87) fun v223 =>
 mK (calM call 261 [v86, v223] h90) fun v224 h225 =>
 retC (NV.tuple []) h225)))) fun J91 =>
 condK v85 (
 J91 v55 v56 v57 v85 h59) (
 bK (eqI v57 (NV.int .i64 (.ofNat 36))) fun v226 =>
 J91 v55 v56 v57 v226 h59))) fun J60 =>
 condK v54 (
 J60 v45 v46 v47 v54 h49) (
 bK (eqI v47 (NV.int .i64 (.ofNat 33))) fun v227 =>
 condK v227 (
 J60 v45 v46 v47 v227 h49) (
 bK (eqI v47 (NV.int .i64 (.ofNat 34))) fun v228 =>
 J60 v45 v46 v47 v228 h49)))) fun J50 =>
 condK v44 (
 J50 v35 v36 v37 v44 h39) (
 bK (eqI v37 (NV.int .i64 (.ofNat 27))) fun v229 =>
 condK v229 (
 J50 v35 v36 v37 v229 h39) (
 bK (eqI v37 (NV.int .i64 (.ofNat 28))) fun v230 =>
 J50 v35 v36 v37 v230 h39)))) fun J40 =>
 condK v34 (
 J40 v25 v26 v27 v34 h29) (
 bK (eqI v27 (NV.int .i64 (.ofNat 12))) fun v231 =>
 condK v231 (
 J40 v25 v26 v27 v231 h29) (
 bK (eqI v27 (NV.int .i64 (.ofNat 13))) fun v232 =>
 condK v232 (
 J40 v25 v26 v27 v232 h29) (
 bK (eqI v27 (NV.int .i64 (.ofNat 14))) fun v233 =>
 condK v233 (
 J40 v25 v26 v27 v233 h29) (
 bK (eqI v27 (NV.int .i64 (.ofNat 15))) fun v234 =>
 condK v234 (
 J40 v25 v26 v27 v234 h29) (
 bK (eqI v27 (NV.int .i64 (.ofNat 16))) fun v235 =>
 condK v235 (
 J40 v25 v26 v27 v235 h29) (
 bK (eqI v27 (NV.int .i64 (.ofNat 17))) fun v236 =>
 J40 v25 v26 v27 v236 h29)))))))) fun J30 =>
 condK v24 (
 J30 v0 v4 v23 v24 h9) (
 bK (eqI v23 (NV.int .i64 (.ofNat 3))) fun v237 =>
 condK v237 (
 J30 v0 v4 v23 v237 h9) (
 bK (eqI v23 (NV.int .i64 (.ofNat 4))) fun v238 =>
 J30 v0 v4 v23 v238 h9))))
theorem e195 : ikB Tryz.prog 9 Tryz.f195 = S195 := by kernel_rfl
theorem k195 [Sig] (w0 : World) : SOK cW w0 195 S195 := okW Tryz.func195 (by kernel_rfl) e195
noncomputable def S196 (call : CallF) (N : Nat) (l : List NV) (h : H) : R :=
 uc l fun v0 l1 => uc l1 fun v2 l3 => un l3 (
 bK (lenSl v2) fun v4 =>
 bK (subI v4 (NV.int .i64 (.ofNat 1))) fun v5 =>
 loopC N 3 (fun L10 v6 v7 v8 h9 =>
 bK (geI v8 (NV.int .i64 (.ofNat 0))) fun v11 =>
 condK v11 (
 mK (calM call 260 [v6] h9) fun v12 h13 =>
 bK (eqI v12 (NV.int .i64 (.ofNat 0))) fun v14 =>
 jK (fun v15 h16 =>
 jK (fun v18 h19 =>
 jK (fun v21 h22 =>
 jK (fun v24 h25 =>
 jK (fun v27 h28 =>
 jK (fun v30 h31 =>
 bK (pickO v14 (NV.bool true) v30) fun v33 =>
 mK (calM call 197 [v6, v33] h31) fun v34 h35 =>
 bK (subI v8 (NV.int .i64 (.ofNat 1))) fun v36 =>
 L10 v6 v7 v36 h35) fun J32 => gK v14 false (
 bK (eqI v15 v27) fun v37 =>
 J32 v37 h28) (J32 (NV.tuple []) h28)) fun J29 => gK v14 false (
 bK (ldO 1 false h25 v24) fun v38 =>
 J29 v38 h25) (J29 (NV.tuple []) h25)) fun J26 => gK v14 false (
 bK (ixS 1 v18 v21) fun v39 =>
 J26 v39 h22) (J26 (NV.tuple []) h22)) fun J23 => gK v14 false (
 J23 v8 h19) (J23 (NV.tuple []) h19)) fun J20 => gK v14 false (
 J20 v7 h16) (J20 (NV.tuple []) h16)) fun J17 => gK v14 false (
 J17 v12 h13) (J17 (NV.tuple []) h13)) (
 retC (NV.tuple []) h9)) v0 v2 v5 h)
theorem e196 : ikB Tryz.prog 9 Tryz.f196 = S196 := by kernel_rfl
theorem k196 [Sig] (w0 : World) : SOK cW w0 196 S196 := okW Tryz.func196 (by kernel_rfl) e196
noncomputable def S197 (call : CallF) (N : Nat) (l : List NV) (h : H) : R :=
 uc l fun v0 l1 => uc l1 fun v2 l3 => un l3 (
 bK (nilO v0) fun v4 =>
 bK (fAddr 6 v4) fun v5 =>
 bK (ldO 1 false h v5) fun v6 =>
 jK (fun v7 h8 =>
 bK (pickO v6 v7 (NV.bool false)) fun v10 =>
 bK (nilO v0) fun v11 =>
 bK (fAddr 6 v11) fun v12 =>
 mK (stM 1 v12 v10 h8) fun v13 h14 =>
 retC (NV.tuple []) h14) fun J9 => gK v6 true (
 J9 v2 h) (J9 (NV.tuple []) h))
theorem e197 : ikB Tryz.prog 9 Tryz.f197 = S197 := by kernel_rfl
theorem k197 [Sig] (w0 : World) : SOK cW w0 197 S197 := okW Tryz.func197 (by kernel_rfl) e197
noncomputable def S199 (call : CallF) (N : Nat) (l : List NV) (h : H) : R :=
 uc l fun v0 l1 => un l1 (
 mK (boxM false v0 h) fun v2 h3 =>
 bK (fAddr 1 v2) fun v4 =>
 bK (ldO 1 false h3 v4) fun v5 =>
 bK (lenSl v5) fun v6 =>
 bK (fAddr 0 v2) fun v7 =>
 bK (ldO 1 false h3 v7) fun v8 =>
 bK (lenSl v8) fun v9 =>
 bK (subI v6 v9) fun v10 =>
 retC v10 h3)
theorem e199 : ikB Tryz.prog 9 Tryz.f199 = S199 := by kernel_rfl
theorem k199 [Sig] (w0 : World) : SOK cW w0 199 S199 := okW Tryz.func199 (by kernel_rfl) e199
noncomputable def S200 (call : CallF) (N : Nat) (l : List NV) (h : H) : R :=
 uc l fun v0 l1 => uc l1 fun v2 l3 => un l3 (
 mK (calM call 262 [v0, v2] h) fun v4 h5 =>
 retC v4 h5)
theorem e200 : ikB Tryz.prog 9 Tryz.f200 = S200 := by kernel_rfl
theorem k200 [Sig] (w0 : World) : SOK cW w0 200 S200 := okW Tryz.func200 (by kernel_rfl) e200
noncomputable def S215 (call : CallF) (N : Nat) (l : List NV) (h : H) : R :=
 uc l fun v0 l1 => un l1 (
 bK (eqI v0 (NV.int .i64 (.ofNat 8))) fun v2 =>
 jK (fun v3 h4 =>
 jK (fun v6 h7 =>
 bK (pickO v2 (NV.bool true) v6) fun v9 =>
 jK (fun v10 h11 =>
 jK (fun v13 h14 =>
 bK (pickO v9 (NV.bool true) v13) fun v16 =>
 jK (fun v17 h18 =>
 jK (fun v20 h21 =>
 bK (pickO v16 (NV.bool true) v20) fun v23 =>
 retC v23 h21) fun J22 => gK v16 false (
 bK (eqI v17 (NV.int .i64 (.ofNat 64))) fun v24 =>
 J22 v24 h18) (J22 (NV.tuple []) h18)) fun J19 => gK v16 false (
 J19 v0 h14) (J19 (NV.tuple []) h14)) fun J15 => gK v9 false (
 bK (eqI v10 (NV.int .i64 (.ofNat 32))) fun v25 =>
 J15 v25 h11) (J15 (NV.tuple []) h11)) fun J12 => gK v9 false (
 J12 v0 h7) (J12 (NV.tuple []) h7)) fun J8 => gK v2 false (
 bK (eqI v3 (NV.int .i64 (.ofNat 16))) fun v26 =>
 J8 v26 h4) (J8 (NV.tuple []) h4)) fun J5 => gK v2 false (
 J5 v0 h) (J5 (NV.tuple []) h))
theorem e215 : ikB Tryz.prog 9 Tryz.f215 = S215 := by kernel_rfl
theorem k215 [Sig] (w0 : World) : SOK cW w0 215 S215 := okW Tryz.func215 (by kernel_rfl) e215
noncomputable def S216 (call : CallF) (N : Nat) (l : List NV) (h : H) : R :=
 uc l fun v0 l1 => un l1 (
 bK (cvI .u64 v0) fun v2 =>
 bK (subI (NV.int .u64 (.ofNat 64)) v2) fun v3 =>
 bK (binO .shr (NV.int .u64 (.ofNat 18446744073709551615)) v3) fun v4 =>
 retC v4 h)
theorem e216 : ikB Tryz.prog 9 Tryz.f216 = S216 := by kernel_rfl
theorem k216 [Sig] (w0 : World) : SOK cW w0 216 S216 := okW Tryz.func216 (by kernel_rfl) e216
noncomputable def S228 (call : CallF) (N : Nat) (l : List NV) (h : H) : R :=
 uc l fun v0 l1 => uc l1 fun v2 l3 => uc l3 fun v4 l5 => un l5 (
 joinC 2 (fun v6 v7 h8 =>
 bK (binO .xor v6 v7) fun v10 =>
 retC v10 h8) fun J9 =>
 joinC 2 (fun v11 v12 h13 =>
 bK (addI v11 v12) fun v15 =>
 retC v15 h13) fun J14 =>
 bK (eqI v0 (NV.int .i64 (.ofNat 2))) fun v16 =>
 condK v16 (
 bK (unO .neg v4) fun v17 =>
 J14 v2 v17 h) (
 bK (eqI v0 (NV.int .i64 (.ofNat 1))) fun v18 =>
 condK v18 (
 J14 v2 v4 h) (
 bK (eqI v0 (NV.int .i64 (.ofNat 3))) fun v19 =>
 condK v19 (
 bK (binO .mul v2 v4) fun v20 =>
 retC v20 h) (
 bK (eqI v0 (NV.int .i64 (.ofNat 8))) fun v21 =>
 condK v21 (
 bK (binO .and v2 v4) fun v22 =>
 retC v22 h) (
 bK (eqI v0 (NV.int .i64 (.ofNat 9))) fun v23 =>
 condK v23 (
 bK (binO .or v2 v4) fun v24 =>
 retC v24 h) (
 J9 v2 v4 h))))))
theorem e228 : ikB Tryz.prog 9 Tryz.f228 = S228 := by kernel_rfl
theorem k228 [Sig] (w0 : World) : SOK cW w0 228 S228 := okW Tryz.func228 (by kernel_rfl) e228
noncomputable def S181 (call : CallF) (N : Nat) (l : List NV) (h : H) : R :=
 uc l fun v0 l1 => uc l1 fun v2 l3 => un l3 (
 bK (lenSl v0) fun v4 =>
 joinC 0 (fun h5 =>
 retC (NV.int .i64 (.negSucc 0)) h5) fun J6 =>
 loopC N 4 (fun L12 v7 v8 v9 v10 h11 =>
 bK (ltI v10 v9) fun v13 =>
 condK v13 (
 bK (ixS 1 v7 v10) fun v14 =>
 bK (ldO 1 false h11 v14) fun v15 =>
 mK (calV call v8 [v15] h11) fun v16 h17 =>
 condK v16 (
 retC v10 h17) (
 bK (addI v10 (NV.int .i64 (.ofNat 1))) fun v18 =>
 L12 v7 v8 v9 v18 h17)) (
 J6 h11)) v0 v2 v4 (NV.int .i64 (.ofNat 0)) h)
theorem e181 : ikB Tryz.prog 9 Tryz.f181 = S181 := by kernel_rfl
theorem k181 [Sig] (w0 : World) : SOK cW w0 181 S181 := okW Tryz.func181 (by kernel_rfl) e181
noncomputable def S183 (call : CallF) (N : Nat) (l : List NV) (h : H) : R :=
 uc l fun v0 l1 => uc l1 fun v2 l3 => un l3 (
 mK (boxM false v0 h) fun v4 h5 =>
 bK (ldO 1 false h5 v2) fun v6 =>
 bK (ldO 9 true h5 v4) fun v7 =>
 mK (calV call v6 [v7] h5) fun v8 h9 =>
 jK (fun v10 h11 =>
 jK (fun v13 h14 =>
 jK (fun v16 h17 =>
 jK (fun v19 h20 =>
 bK (pickO v8 v19 (NV.bool false)) fun v22 =>
 jK (fun v23 h24 =>
 jK (fun v26 h27 =>
 jK (fun v29 h30 =>
 jK (fun v32 h33 =>
 bK (pickO v22 v32 (NV.bool false)) fun v35 =>
 retC v35 h33) fun J34 => gK v22 true (
 mK (calM call 128 [v26, v29] h30) fun v36 h37 =>
 J34 v36 h37) (J34 (NV.tuple []) h30)) fun J31 => gK v22 true (
 bK (ldO 1 false h27 v2) fun v38 =>
 J31 v38 h27) (J31 (NV.tuple []) h27)) fun J28 => gK v22 true (
 bK (ldO 1 false h24 v23) fun v39 =>
 J28 v39 h24) (J28 (NV.tuple []) h24)) fun J25 => gK v22 true (
 bK (fAddr 7 v4) fun v40 =>
 J25 v40 h20) (J25 (NV.tuple []) h20)) fun J21 => gK v8 true (
 mK (calM call 128 [v13, v16] h17) fun v41 h42 =>
 J21 v41 h42) (J21 (NV.tuple []) h17)) fun J18 => gK v8 true (
 bK (ldO 1 false h14 v2) fun v43 =>
 J18 v43 h14) (J18 (NV.tuple []) h14)) fun J15 => gK v8 true (
 bK (ldO 1 false h11 v10) fun v44 =>
 J15 v44 h11) (J15 (NV.tuple []) h11)) fun J12 => gK v8 true (
 bK (fAddr 6 v4) fun v45 =>
 J12 v45 h9) (J12 (NV.tuple []) h9))
theorem e183 : ikB Tryz.prog 9 Tryz.f183 = S183 := by kernel_rfl
theorem k183 [Sig] (w0 : World) : SOK cW w0 183 S183 := okW Tryz.func183 (by kernel_rfl) e183
noncomputable def S182 (call : CallF) (N : Nat) (l : List NV) (h : H) : R :=
 uc l fun v0 l1 => uc l1 fun v2 l3 => un l3 (
 mK (boxM false v2 h) fun v4 h5 =>
 mK (calM call 251 [v0, (NV.func (.func 252) [] [v4])] h5) fun v6 h7 =>
 bK (notO v6) fun v8 =>
 retC v8 h7)
theorem e182 : ikB Tryz.prog 9 Tryz.f182 = S182 := by kernel_rfl
theorem k182 [Sig] (w0 : World) : SOK cW w0 182 S182 := okW Tryz.func182 (by kernel_rfl) e182
noncomputable def S184 (call : CallF) (N : Nat) (l : List NV) (h : H) : R :=
 uc l fun v0 l1 => uc l1 fun v2 l3 => un l3 (
 mK (boxM false v0 h) fun v4 h5 =>
 mK (boxM false v2 h5) fun v6 h7 =>
 bK (ldO 9 true h7 v4) fun v8 =>
 mK (calM call 253 [v8] h7) fun v9 h10 =>
 mK (alM (NB.cells [(NV.bool false), (NV.bool false), (NV.bool false), (NV.bool false), (NV.bool false)]) h10) fun v11 h12 =>
 mK (stM 5 v11 v9 h12) fun v13 h14 =>
 bK (fAddr 0 v11) fun v15 =>
 bK (ldO 1 false h14 v15) fun v16 =>
 jK (fun v17 h18 =>
 jK (fun v20 h21 =>
 jK (fun v23 h24 =>
 bK (pickO v16 v23 (NV.bool false)) fun v26 =>
 jK (fun v27 h28 =>
 jK (fun v30 h31 =>
 jK (fun v33 h34 =>
 jK (fun v36 h37 =>
 jK (fun v39 h40 =>
 jK (fun v42 h43 =>
 jK (fun v45 h46 =>
 bK (pickO v26 (NV.bool true) v45) fun v48 =>
 jK (fun v49 h50 =>
 jK (fun v52 h53 =>
 jK (fun v55 h56 =>
 jK (fun v58 h59 =>
 jK (fun v61 h62 =>
 jK (fun v64 h65 =>
 jK (fun v67 h68 =>
 bK (pickO v48 (NV.bool true) v67) fun v70 =>
 jK (fun v71 h72 =>
 jK (fun v74 h75 =>
 jK (fun v77 h78 =>
 jK (fun v80 h81 =>
 jK (fun v83 h84 =>
 jK (fun v86 h87 =>
 jK (fun v89 h90 =>
 bK (pickO v70 (NV.bool true) v89) fun v92 =>
 jK (fun v93 h94 =>
 jK (fun v96 h97 =>
 jK (fun v99 h100 =>
 jK (fun v102 h103 =>
 jK (fun v105 h106 =>
 jK (fun v108 h109 =>
 jK (fun v111 h112 =>
 bK (pickO v92 (NV.bool true) v111) fun v114 =>
 bK (notO v114) fun v115 =>
 retC v115 h112) fun J113 => gK v92 false (
 bK (pickO v99 v108 (NV.bool false)) fun v116 =>
 J113 v116 h109) (J113 (NV.tuple []) h109)) fun J110 => gK v99 true (
 bK (notO v105) fun v117 =>
 J110 v117 h106) (J110 (NV.tuple []) h106)) fun J107 => gK v99 true (
 bK (ldO 1 false h103 v102) fun v118 =>
 J107 v118 h103) (J107 (NV.tuple []) h103)) fun J104 => gK v99 true (
 bK (fAddr 4 v6) fun v119 =>
 J104 v119 h100) (J104 (NV.tuple []) h100)) fun J101 => gK v92 false (
 J101 v96 h97) (J101 (NV.tuple []) h97)) fun J98 => gK v92 false (
 bK (ldO 1 false h94 v93) fun v120 =>
 J98 v120 h94) (J98 (NV.tuple []) h94)) fun J95 => gK v92 false (
 bK (fAddr 4 v11) fun v121 =>
 J95 v121 h90) (J95 (NV.tuple []) h90)) fun J91 => gK v70 false (
 bK (pickO v77 v86 (NV.bool false)) fun v122 =>
 J91 v122 h87) (J91 (NV.tuple []) h87)) fun J88 => gK v77 true (
 bK (notO v83) fun v123 =>
 J88 v123 h84) (J88 (NV.tuple []) h84)) fun J85 => gK v77 true (
 bK (ldO 1 false h81 v80) fun v124 =>
 J85 v124 h81) (J85 (NV.tuple []) h81)) fun J82 => gK v77 true (
 bK (fAddr 3 v6) fun v125 =>
 J82 v125 h78) (J82 (NV.tuple []) h78)) fun J79 => gK v70 false (
 J79 v74 h75) (J79 (NV.tuple []) h75)) fun J76 => gK v70 false (
 bK (ldO 1 false h72 v71) fun v126 =>
 J76 v126 h72) (J76 (NV.tuple []) h72)) fun J73 => gK v70 false (
 bK (fAddr 3 v11) fun v127 =>
 J73 v127 h68) (J73 (NV.tuple []) h68)) fun J69 => gK v48 false (
 bK (pickO v55 v64 (NV.bool false)) fun v128 =>
 J69 v128 h65) (J69 (NV.tuple []) h65)) fun J66 => gK v55 true (
 bK (notO v61) fun v129 =>
 J66 v129 h62) (J66 (NV.tuple []) h62)) fun J63 => gK v55 true (
 bK (ldO 1 false h59 v58) fun v130 =>
 J63 v130 h59) (J63 (NV.tuple []) h59)) fun J60 => gK v55 true (
 bK (fAddr 2 v6) fun v131 =>
 J60 v131 h56) (J60 (NV.tuple []) h56)) fun J57 => gK v48 false (
 J57 v52 h53) (J57 (NV.tuple []) h53)) fun J54 => gK v48 false (
 bK (ldO 1 false h50 v49) fun v132 =>
 J54 v132 h50) (J54 (NV.tuple []) h50)) fun J51 => gK v48 false (
 bK (fAddr 2 v11) fun v133 =>
 J51 v133 h46) (J51 (NV.tuple []) h46)) fun J47 => gK v26 false (
 bK (pickO v33 v42 (NV.bool false)) fun v134 =>
 J47 v134 h43) (J47 (NV.tuple []) h43)) fun J44 => gK v33 true (
 bK (notO v39) fun v135 =>
 J44 v135 h40) (J44 (NV.tuple []) h40)) fun J41 => gK v33 true (
 bK (ldO 1 false h37 v36) fun v136 =>
 J41 v136 h37) (J41 (NV.tuple []) h37)) fun J38 => gK v33 true (
 bK (fAddr 1 v6) fun v137 =>
 J38 v137 h34) (J38 (NV.tuple []) h34)) fun J35 => gK v26 false (
 J35 v30 h31) (J35 (NV.tuple []) h31)) fun J32 => gK v26 false (
 bK (ldO 1 false h28 v27) fun v138 =>
 J32 v138 h28) (J32 (NV.tuple []) h28)) fun J29 => gK v26 false (
 bK (fAddr 1 v11) fun v139 =>
 J29 v139 h24) (J29 (NV.tuple []) h24)) fun J25 => gK v16 true (
 bK (notO v20) fun v140 =>
 J25 v140 h21) (J25 (NV.tuple []) h21)) fun J22 => gK v16 true (
 bK (ldO 1 false h18 v17) fun v141 =>
 J22 v141 h18) (J22 (NV.tuple []) h18)) fun J19 => gK v16 true (
 bK (fAddr 0 v6) fun v142 =>
 J19 v142 h14) (J19 (NV.tuple []) h14))
theorem e184 : ikB Tryz.prog 9 Tryz.f184 = S184 := by kernel_rfl
theorem k184 [Sig] (w0 : World) : SOK cW w0 184 S184 := okW Tryz.func184 (by kernel_rfl) e184
noncomputable def S186 (call : CallF) (N : Nat) (l : List NV) (h : H) : R :=
 uc l fun v0 l1 => uc l1 fun v2 l3 => un l3 (
 bK (lenSl v0) fun v4 =>
 joinC 0 (fun h5 =>
 retC (NV.int .i64 (.negSucc 0)) h5) fun J6 =>
 loopC N 4 (fun L12 v7 v8 v9 v10 h11 =>
 bK (ltI v10 v9) fun v13 =>
 condK v13 (
 bK (ixS 1 v7 v10) fun v14 =>
 bK (ldO 1 false h11 v14) fun v15 =>
 mK (calV call v8 [v15] h11) fun v16 h17 =>
 condK v16 (
 retC v10 h17) (
 bK (addI v10 (NV.int .i64 (.ofNat 1))) fun v18 =>
 L12 v7 v8 v9 v18 h17)) (
 J6 h11)) v0 v2 v4 (NV.int .i64 (.ofNat 0)) h)
theorem e186 : ikB Tryz.prog 9 Tryz.f186 = S186 := by kernel_rfl
theorem k186 [Sig] (w0 : World) : SOK cW w0 186 S186 := okW Tryz.func186 (by kernel_rfl) e186
noncomputable def S254 (call : CallF) (N : Nat) (l : List NV) (h : H) : R :=
 uc l fun v0 l1 => uc l1 fun v2 l3 => un l3 (
 mK (boxM false v2 h) fun v4 h5 =>
 bK (nilO v0) fun v6 =>
 bK (fAddr 0 v6) fun v7 =>
 bK (ldO 1 false h5 v7) fun v8 =>
 bK (nilO v8) fun v9 =>
 bK (fAddr 13 v9) fun v10 =>
 bK (ldO 1 false h5 v10) fun v11 =>
 bK (lenSl v11) fun v12 =>
 bK (gtI v12 (NV.int .i64 (.ofNat 0))) fun v13 =>
 bK (fAddr 0 v4) fun v14 =>
 bK (ldO 1 false h5 v14) fun v15 =>
 mK (calM call 45 [v15] h5) fun v16 h17 =>
 bK (eqI v16 (NV.int .i64 (.ofNat 4))) fun v18 =>
 condK v18 (
 bK (nilO v0) fun v19 =>
 bK (fAddr 0 v19) fun v20 =>
 bK (ldO 1 false h17 (chkV h17 v20)) fun v21 =>
 bK (nilO v21) fun v22 =>
 bK (fAddr 16 v22) fun v23 =>
 bK (ldO 1 false h17 (chkV h17 v23)) fun v24 =>
 bK (fAddr 1 v4) fun v25 =>
 bK (ldO 1 false h17 (chkV h17 v25)) fun v26 =>
 bK (lookO Tryz.prog 3 (NV.bool false) false h17 (chkV h17 v24) (chkV h17 v26)) fun v27 =>
 jK (fun v28 h29 =>
 jK (fun v31 h32 =>
 jK (fun v34 h35 =>
 jK (fun v37 h38 =>
 jK (fun v40 h41 =>
 jK (fun v43 h44 =>
 jK (fun v46 h47 =>
 jK (fun v49 h50 =>
 jK (fun v52 h53 =>
 jK (fun v55 h56 =>
 jK (fun v58 h59 =>
 bK (pickO v27 v58 (NV.bool false)) fun v61 =>
 retC v61 h17) fun J60 => gK v27 true (
 bK (ltI v31 v55) fun v62 =>
 J60 v62 h17) (J60 (NV.tuple []) h17)) fun J57 => gK v27 true (
 bK (lenSl v52) fun v63 =>
 J57 v63 h17) (J57 (NV.tuple []) h17)) fun J54 => gK v27 true (
 bK (ldO 1 false h17 (chkV h17 v49)) fun v64 =>
 J54 v64 h17) (J54 (NV.tuple []) h17)) fun J51 => gK v27 true (
 bK (fAddr 11 v46) fun v65 =>
 J51 v65 h17) (J51 (NV.tuple []) h17)) fun J48 => gK v27 true (
 bK (nilO v43) fun v66 =>
 J48 v66 h17) (J48 (NV.tuple []) h17)) fun J45 => gK v27 true (
 bK (ldO 1 false h17 (chkV h17 v40)) fun v67 =>
 J45 v67 h17) (J45 (NV.tuple []) h17)) fun J42 => gK v27 true (
 bK (fAddr 0 v37) fun v68 =>
 J42 v68 h17) (J42 (NV.tuple []) h17)) fun J39 => gK v27 true (
 bK (nilO v34) fun v69 =>
 J39 v69 h17) (J39 (NV.tuple []) h17)) fun J36 => gK v27 true (
 J36 v0 h17) (J36 (NV.tuple []) h17)) fun J33 => gK v27 true (
 bK (ldO 1 false h17 (chkV h17 v28)) fun v70 =>
 J33 v70 h17) (J33 (NV.tuple []) h17)) fun J30 => gK v27 true (
 bK (fAddr 1 v4) fun v71 =>
 J30 v71 h17) (J30 (NV.tuple []) h17)) (
 bK (eqI v16 (NV.int .i64 (.ofNat 10))) fun v72 =>
 joinC 5 (fun v73 v74 v75 v76 v77 h78 =>
 condK v77 (
 bK (fAddr 5 v74) fun v80 =>
 bK (ldO 1 false h78 (chkV h78 v80)) fun v81 =>
 bK (lenSl v81) fun v82 =>
 bK (eqI v82 (NV.int .i64 (.ofNat 0))) fun v83 =>
 jK (fun v84 h85 =>
 jK (fun v87 h88 =>
 jK (fun v90 h91 =>
 jK (fun v93 h94 =>
 jK (fun v96 h97 =>
 jK (fun v99 h100 =>
 jK (fun v102 h103 =>
 nextK h78 h103 (
 jK (fun v105 h106 =>
 bK (pickO v83 (NV.bool true) v105) fun v108 =>
 none /- guarded read checked again -/) fun J107 => gK v83 false (
 bK (ltI v93 v102) fun v109 =>
 J107 v109 h103) (J107 (NV.tuple []) h103))) fun J104 => gK v83 false (
 mK (calM call 206 [(chkV h78 v99)] h78) fun v110 h111 =>
 J104 v110 h111) (J104 (NV.tuple []) h78)) fun J101 => gK v83 false (
 bK (ldO 1 false h78 (chkV h78 v96)) fun v112 =>
 J101 v112 h78) (J101 (NV.tuple []) h78)) fun J98 => gK v83 false (
 bK (fAddr 0 v74) fun v113 =>
 J98 v113 h78) (J98 (NV.tuple []) h78)) fun J95 => gK v83 false (
 bK (ldO 1 false h78 (chkV h78 v90)) fun v114 =>
 J95 v114 h78) (J95 (NV.tuple []) h78)) fun J92 => gK v83 false (
 bK (ixS 1 v87 (NV.int .i64 (.ofNat 0))) fun v115 =>
 J92 v115 h78) (J92 (NV.tuple []) h78)) fun J89 => gK v83 false (
 bK (ldO 1 false h78 (chkV h78 v84)) fun v116 =>
 J89 v116 h78) (J89 (NV.tuple []) h78)) fun J86 => gK v83 false (
 bK (fAddr 5 v74) fun v117 =>
 J86 v117 h78) (J86 (NV.tuple []) h78)) (
 bK (eqI v76 (NV.int .i64 (.ofNat 11))) fun v118 =>
 joinC 5 (fun v119 v120 v121 v122 v123 h124 =>
 condK v123 (
 retC v121 h124) (
 bK (eqI v122 (NV.int .i64 (.ofNat 25))) fun v126 =>
 condK v126 (
 bK (fAddr 1 v120) fun v127 =>
 bK (ldO 1 false h124 (chkV h124 v127)) fun v128 =>
 bK (fAddr 0 v120) fun v129 =>
 bK (ldO 1 false h124 (chkV h124 v129)) fun v130 =>
 mK (calM call 206 [(chkV h124 v130)] h124) fun v131 h132 =>
 nextK h124 h132 (
 bK (ltI v128 v131) fun v133 =>
 bK (ldO 1 false h132 (chkV h132 v127)) fun v134 =>
 sameK v134 v128 (
 retC v133 h132))) (
 bK (eqI v122 (NV.int .i64 (.ofNat 24))) fun v135 =>
 condK v135 (
 bK (fAddr 5 v120) fun v136 =>
 bK (ldO 1 false h124 v136) fun v137 =>
 mK (calM call 125 [v137, (NV.func (.func 288) [] [])] h124) fun v138 h139 =>
 bK (notO v138) fun v140 =>
 retC v140 h139) (
 bK (eqI v122 (NV.int .i64 (.ofNat 17))) fun v141 =>
 condK v141 (
 jK (fun v142 h143 =>
 jK (fun v145 h146 =>
 jK (fun v148 h149 =>
 jK (fun v151 h152 =>
 jK (fun v154 h155 =>
 jK (fun v157 h158 =>
 jK (fun v160 h161 =>
 jK (fun v163 h164 =>
 jK (fun v166 h167 =>
 jK (fun v169 h170 =>
 jK (fun v172 h173 =>
 jK (fun v175 h176 =>
 bK (pickO v121 v175 (NV.bool false)) fun v178 =>
 retC v178 h124) fun J177 => gK v121 true (
 bK (ltI v145 v172) fun v179 =>
 J177 v179 h124) (J177 (NV.tuple []) h124)) fun J174 => gK v121 true (
 bK (lenSl v169) fun v180 =>
 J174 v180 h124) (J174 (NV.tuple []) h124)) fun J171 => gK v121 true (
 bK (ldO 1 false h124 (chkV h124 v166)) fun v181 =>
 J171 v181 h124) (J171 (NV.tuple []) h124)) fun J168 => gK v121 true (
 bK (fAddr 9 v163) fun v182 =>
 J168 v182 h124) (J168 (NV.tuple []) h124)) fun J165 => gK v121 true (
 bK (fAddr 0 v160) fun v183 =>
 J165 v183 h124) (J165 (NV.tuple []) h124)) fun J162 => gK v121 true (
 bK (nilO v157) fun v184 =>
 J162 v184 h124) (J162 (NV.tuple []) h124)) fun J159 => gK v121 true (
 bK (ldO 1 false h124 (chkV h124 v154)) fun v185 =>
 J159 v185 h124) (J159 (NV.tuple []) h124)) fun J156 => gK v121 true (
 bK (fAddr 0 v151) fun v186 =>
 J156 v186 h124) (J156 (NV.tuple []) h124)) fun J153 => gK v121 true (
 bK (nilO v148) fun v187 =>
 J153 v187 h124) (J153 (NV.tuple []) h124)) fun J150 => gK v121 true (
 J150 v119 h124) (J150 (NV.tuple []) h124)) fun J147 => gK v121 true (
 bK (ldO 1 false h124 (chkV h124 v142)) fun v188 =>
 J147 v188 h124) (J147 (NV.tuple []) h124)) fun J144 => gK v121 true (
 bK (fAddr 1 v120) fun v189 =>
 J144 v189 h124) (J144 (NV.tuple []) h124)) (
 bK (eqI v122 (NV.int .i64 (.ofNat 18))) fun v190 =>
 condK v190 (
 bK (fAddr 1 v120) fun v191 =>
 bK (ldO 1 false h124 (chkV h124 v191)) fun v192 =>
 bK (nilO v119) fun v193 =>
 bK (fAddr 0 v193) fun v194 =>
 bK (ldO 1 false h124 (chkV h124 v194)) fun v195 =>
 bK (nilO v195) fun v196 =>
 bK (fAddr 0 v196) fun v197 =>
 bK (fAddr 9 v197) fun v198 =>
 bK (ldO 1 false h124 (chkV h124 v198)) fun v199 =>
 bK (lenSl v199) fun v200 =>
 bK (ltI v192 v200) fun v201 =>
 retC v201 h124) (
 bK (eqI v122 (NV.int .i64 (.ofNat 21))) fun v202 =>
 condK v202 (
 bK (fAddr 1 v120) fun v203 =>
 bK (ldO 1 false h124 (chkV h124 v203)) fun v204 =>
 bK (nilO v119) fun v205 =>
 bK (fAddr 0 v205) fun v206 =>
 bK (ldO 1 false h124 (chkV h124 v206)) fun v207 =>
 bK (nilO v207) fun v208 =>
 bK (fAddr 0 v208) fun v209 =>
 bK (fAddr 8 v209) fun v210 =>
 bK (ldO 1 false h124 (chkV h124 v210)) fun v211 =>
 bK (lenSl v211) fun v212 =>
 bK (ltI v204 v212) fun v213 =>
 retC v213 h124) (
 bK (eqI v122 (NV.int .i64 (.ofNat 20))) fun v214 =>
 condK v214 (
 bK (fAddr 1 v120) fun v215 =>
 bK (ldO 1 false h124 (chkV h124 v215)) fun v216 =>
 bK (nilO v119) fun v217 =>
 bK (fAddr 0 v217) fun v218 =>
 bK (ldO 1 false h124 (chkV h124 v218)) fun v219 =>
 bK (nilO v219) fun v220 =>
 bK (fAddr 0 v220) fun v221 =>
 bK (fAddr 8 v221) fun v222 =>
 bK (ldO 1 false h124 (chkV h124 v222)) fun v223 =>
 bK (lenSl v223) fun v224 =>
 bK (ltI v216 v224) fun v225 =>
 jK (fun v226 h227 =>
 jK (fun v229 h230 =>
 jK (fun v232 h233 =>
 jK (fun v235 h236 =>
 jK (fun v238 h239 =>
 jK (fun v241 h242 =>
 jK (fun v244 h245 =>
 jK (fun v247 h248 =>
 jK (fun v250 h251 =>
 jK (fun v253 h254 =>
 jK (fun v256 h257 =>
 bK (pickO v225 v256 (NV.bool false)) fun v259 =>
 jK (fun v260 h261 =>
 jK (fun v263 h264 =>
 jK (fun v266 h267 =>
 jK (fun v269 h270 =>
 jK (fun v272 h273 =>
 jK (fun v275 h276 =>
 jK (fun v278 h279 =>
 jK (fun v281 h282 =>
 jK (fun v284 h285 =>
 jK (fun v287 h288 =>
 jK (fun v290 h291 =>
 jK (fun v293 h294 =>
 jK (fun v296 h297 =>
 jK (fun v299 h300 =>
 jK (fun v302 h303 =>
 jK (fun v305 h306 =>
 jK (fun v308 h309 =>
 jK (fun v311 h312 =>
 jK (fun v314 h315 =>
 jK (fun v317 h318 =>
 jK (fun v320 h321 =>
 jK (fun v323 h324 =>
 jK (fun v326 h327 =>
 jK (fun v329 h330 =>
 jK (fun v332 h333 =>
 jK (fun v335 h336 =>
 bK (pickO v259 v335 (NV.bool false)) fun v338 =>
 retC v338 h124) fun J337 => gK v259 true (
 bK (eqI v296 v332) fun v339 =>
 J337 v339 h124) (J337 (NV.tuple []) h124)) fun J334 => gK v259 true (
 bK (ldO 1 false h124 (chkV h124 v329)) fun v340 =>
 J334 v340 h124) (J334 (NV.tuple []) h124)) fun J331 => gK v259 true (
 bK (fAddr 0 v326) fun v341 =>
 J331 v341 h124) (J331 (NV.tuple []) h124)) fun J328 => gK v259 true (
 bK (ixS 4 v317 v323) fun v342 =>
 J328 v342 h124) (J328 (NV.tuple []) h124)) fun J325 => gK v259 true (
 bK (ldO 1 false h124 (chkV h124 v320)) fun v343 =>
 J325 v343 h124) (J325 (NV.tuple []) h124)) fun J322 => gK v259 true (
 bK (fAddr 2 v120) fun v344 =>
 J322 v344 h124) (J322 (NV.tuple []) h124)) fun J319 => gK v259 true (
 bK (ldO 1 false h124 (chkV h124 v314)) fun v345 =>
 J319 v345 h124) (J319 (NV.tuple []) h124)) fun J316 => gK v259 true (
 bK (fAddr 12 v311) fun v346 =>
 J316 v346 h124) (J316 (NV.tuple []) h124)) fun J313 => gK v259 true (
 bK (nilO v308) fun v347 =>
 J313 v347 h124) (J313 (NV.tuple []) h124)) fun J310 => gK v259 true (
 bK (ldO 1 false h124 (chkV h124 v305)) fun v348 =>
 J310 v348 h124) (J310 (NV.tuple []) h124)) fun J307 => gK v259 true (
 bK (fAddr 0 v302) fun v349 =>
 J307 v349 h124) (J307 (NV.tuple []) h124)) fun J304 => gK v259 true (
 bK (nilO v299) fun v350 =>
 J304 v350 h124) (J304 (NV.tuple []) h124)) fun J301 => gK v259 true (
 J301 v119 h124) (J301 (NV.tuple []) h124)) fun J298 => gK v259 true (
 bK (ldO 1 false h124 (chkV h124 v293)) fun v351 =>
 J298 v351 h124) (J298 (NV.tuple []) h124)) fun J295 => gK v259 true (
 bK (fAddr 0 v290) fun v352 =>
 J295 v352 h124) (J295 (NV.tuple []) h124)) fun J292 => gK v259 true (
 bK (ixS 5 v281 v287) fun v353 =>
 J292 v353 h124) (J292 (NV.tuple []) h124)) fun J289 => gK v259 true (
 bK (ldO 1 false h124 (chkV h124 v284)) fun v354 =>
 J289 v354 h124) (J289 (NV.tuple []) h124)) fun J286 => gK v259 true (
 bK (fAddr 1 v120) fun v355 =>
 J286 v355 h124) (J286 (NV.tuple []) h124)) fun J283 => gK v259 true (
 bK (ldO 1 false h124 (chkV h124 v278)) fun v356 =>
 J283 v356 h124) (J283 (NV.tuple []) h124)) fun J280 => gK v259 true (
 bK (fAddr 8 v275) fun v357 =>
 J280 v357 h124) (J280 (NV.tuple []) h124)) fun J277 => gK v259 true (
 bK (fAddr 0 v272) fun v358 =>
 J277 v358 h124) (J277 (NV.tuple []) h124)) fun J274 => gK v259 true (
 bK (nilO v269) fun v359 =>
 J274 v359 h124) (J274 (NV.tuple []) h124)) fun J271 => gK v259 true (
 bK (ldO 1 false h124 (chkV h124 v266)) fun v360 =>
 J271 v360 h124) (J271 (NV.tuple []) h124)) fun J268 => gK v259 true (
 bK (fAddr 0 v263) fun v361 =>
 J268 v361 h124) (J268 (NV.tuple []) h124)) fun J265 => gK v259 true (
 bK (nilO v260) fun v362 =>
 J265 v362 h124) (J265 (NV.tuple []) h124)) fun J262 => gK v259 true (
 J262 v119 h124) (J262 (NV.tuple []) h124)) fun J258 => gK v225 true (
 bK (ltI v229 v253) fun v363 =>
 J258 v363 h124) (J258 (NV.tuple []) h124)) fun J255 => gK v225 true (
 bK (lenSl v250) fun v364 =>
 J255 v364 h124) (J255 (NV.tuple []) h124)) fun J252 => gK v225 true (
 bK (ldO 1 false h124 (chkV h124 v247)) fun v365 =>
 J252 v365 h124) (J252 (NV.tuple []) h124)) fun J249 => gK v225 true (
 bK (fAddr 12 v244) fun v366 =>
 J249 v366 h124) (J249 (NV.tuple []) h124)) fun J246 => gK v225 true (
 bK (nilO v241) fun v367 =>
 J246 v367 h124) (J246 (NV.tuple []) h124)) fun J243 => gK v225 true (
 bK (ldO 1 false h124 (chkV h124 v238)) fun v368 =>
 J243 v368 h124) (J243 (NV.tuple []) h124)) fun J240 => gK v225 true (
 bK (fAddr 0 v235) fun v369 =>
 J240 v369 h124) (J240 (NV.tuple []) h124)) fun J237 => gK v225 true (
 bK (nilO v232) fun v370 =>
 J237 v370 h124) (J237 (NV.tuple []) h124)) fun J234 => gK v225 true (
 J234 v119 h124) (J234 (NV.tuple []) h124)) fun J231 => gK v225 true (
 bK (ldO 1 false h124 (chkV h124 v226)) fun v371 =>
 J231 v371 h124) (J231 (NV.tuple []) h124)) fun J228 => gK v225 true (
 bK (fAddr 2 v120) fun v372 =>
 J228 v372 h124) (J228 (NV.tuple []) h124)) (
 bK (eqI v122 (NV.int .i64 (.ofNat 22))) fun v373 =>
 condK v373 (
 bK (fAddr 1 v120) fun v374 =>
 bK (ldO 1 false h124 (chkV h124 v374)) fun v375 =>
 bK (nilO v119) fun v376 =>
 bK (fAddr 0 v376) fun v377 =>
 bK (ldO 1 false h124 (chkV h124 v377)) fun v378 =>
 bK (nilO v378) fun v379 =>
 bK (fAddr 12 v379) fun v380 =>
 bK (ldO 1 false h124 (chkV h124 v380)) fun v381 =>
 bK (lenSl v381) fun v382 =>
 bK (ltI v375 v382) fun v383 =>
 jK (fun v384 h385 =>
 jK (fun v387 h388 =>
 jK (fun v390 h391 =>
 jK (fun v393 h394 =>
 jK (fun v396 h397 =>
 jK (fun v399 h400 =>
 jK (fun v402 h403 =>
 jK (fun v405 h406 =>
 jK (fun v408 h409 =>
 jK (fun v411 h412 =>
 jK (fun v414 h415 =>
 bK (pickO v383 v414 (NV.bool false)) fun v417 =>
 jK (fun v418 h419 =>
 jK (fun v421 h422 =>
 jK (fun v424 h425 =>
 jK (fun v427 h428 =>
 jK (fun v430 h431 =>
 jK (fun v433 h434 =>
 jK (fun v436 h437 =>
 jK (fun v439 h440 =>
 jK (fun v442 h443 =>
 jK (fun v445 h446 =>
 jK (fun v448 h449 =>
 jK (fun v451 h452 =>
 jK (fun v454 h455 =>
 jK (fun v457 h458 =>
 jK (fun v460 h461 =>
 jK (fun v463 h464 =>
 jK (fun v466 h467 =>
 jK (fun v469 h470 =>
 jK (fun v472 h473 =>
 jK (fun v475 h476 =>
 jK (fun v478 h479 =>
 jK (fun v481 h482 =>
 jK (fun v484 h485 =>
 jK (fun v487 h488 =>
 jK (fun v490 h491 =>
 bK (pickO v417 v490 (NV.bool false)) fun v493 =>
 retC v493 h124) fun J492 => gK v417 true (
 bK (eqI v451 v487) fun v494 =>
 J492 v494 h124) (J492 (NV.tuple []) h124)) fun J489 => gK v417 true (
 bK (ldO 1 false h124 (chkV h124 v484)) fun v495 =>
 J489 v495 h124) (J489 (NV.tuple []) h124)) fun J486 => gK v417 true (
 bK (fAddr 0 v481) fun v496 =>
 J486 v496 h124) (J486 (NV.tuple []) h124)) fun J483 => gK v417 true (
 bK (ixS 4 v472 v478) fun v497 =>
 J483 v497 h124) (J483 (NV.tuple []) h124)) fun J480 => gK v417 true (
 bK (ldO 1 false h124 (chkV h124 v475)) fun v498 =>
 J480 v498 h124) (J480 (NV.tuple []) h124)) fun J477 => gK v417 true (
 bK (fAddr 2 v120) fun v499 =>
 J477 v499 h124) (J477 (NV.tuple []) h124)) fun J474 => gK v417 true (
 bK (ldO 1 false h124 (chkV h124 v469)) fun v500 =>
 J474 v500 h124) (J474 (NV.tuple []) h124)) fun J471 => gK v417 true (
 bK (fAddr 12 v466) fun v501 =>
 J471 v501 h124) (J471 (NV.tuple []) h124)) fun J468 => gK v417 true (
 bK (nilO v463) fun v502 =>
 J468 v502 h124) (J468 (NV.tuple []) h124)) fun J465 => gK v417 true (
 bK (ldO 1 false h124 (chkV h124 v460)) fun v503 =>
 J465 v503 h124) (J465 (NV.tuple []) h124)) fun J462 => gK v417 true (
 bK (fAddr 0 v457) fun v504 =>
 J462 v504 h124) (J462 (NV.tuple []) h124)) fun J459 => gK v417 true (
 bK (nilO v454) fun v505 =>
 J459 v505 h124) (J459 (NV.tuple []) h124)) fun J456 => gK v417 true (
 J456 v119 h124) (J456 (NV.tuple []) h124)) fun J453 => gK v417 true (
 bK (ldO 1 false h124 (chkV h124 v448)) fun v506 =>
 J453 v506 h124) (J453 (NV.tuple []) h124)) fun J450 => gK v417 true (
 bK (fAddr 0 v445) fun v507 =>
 J450 v507 h124) (J450 (NV.tuple []) h124)) fun J447 => gK v417 true (
 bK (ixS 4 v436 v442) fun v508 =>
 J447 v508 h124) (J447 (NV.tuple []) h124)) fun J444 => gK v417 true (
 bK (ldO 1 false h124 (chkV h124 v439)) fun v509 =>
 J444 v509 h124) (J444 (NV.tuple []) h124)) fun J441 => gK v417 true (
 bK (fAddr 1 v120) fun v510 =>
 J441 v510 h124) (J441 (NV.tuple []) h124)) fun J438 => gK v417 true (
 bK (ldO 1 false h124 (chkV h124 v433)) fun v511 =>
 J438 v511 h124) (J438 (NV.tuple []) h124)) fun J435 => gK v417 true (
 bK (fAddr 12 v430) fun v512 =>
 J435 v512 h124) (J435 (NV.tuple []) h124)) fun J432 => gK v417 true (
 bK (nilO v427) fun v513 =>
 J432 v513 h124) (J432 (NV.tuple []) h124)) fun J429 => gK v417 true (
 bK (ldO 1 false h124 (chkV h124 v424)) fun v514 =>
 J429 v514 h124) (J429 (NV.tuple []) h124)) fun J426 => gK v417 true (
 bK (fAddr 0 v421) fun v515 =>
 J426 v515 h124) (J426 (NV.tuple []) h124)) fun J423 => gK v417 true (
 bK (nilO v418) fun v516 =>
 J423 v516 h124) (J423 (NV.tuple []) h124)) fun J420 => gK v417 true (
 J420 v119 h124) (J420 (NV.tuple []) h124)) fun J416 => gK v383 true (
 bK (ltI v387 v411) fun v517 =>
 J416 v517 h124) (J416 (NV.tuple []) h124)) fun J413 => gK v383 true (
 bK (lenSl v408) fun v518 =>
 J413 v518 h124) (J413 (NV.tuple []) h124)) fun J410 => gK v383 true (
 bK (ldO 1 false h124 (chkV h124 v405)) fun v519 =>
 J410 v519 h124) (J410 (NV.tuple []) h124)) fun J407 => gK v383 true (
 bK (fAddr 12 v402) fun v520 =>
 J407 v520 h124) (J407 (NV.tuple []) h124)) fun J404 => gK v383 true (
 bK (nilO v399) fun v521 =>
 J404 v521 h124) (J404 (NV.tuple []) h124)) fun J401 => gK v383 true (
 bK (ldO 1 false h124 (chkV h124 v396)) fun v522 =>
 J401 v522 h124) (J401 (NV.tuple []) h124)) fun J398 => gK v383 true (
 bK (fAddr 0 v393) fun v523 =>
 J398 v523 h124) (J398 (NV.tuple []) h124)) fun J395 => gK v383 true (
 bK (nilO v390) fun v524 =>
 J395 v524 h124) (J395 (NV.tuple []) h124)) fun J392 => gK v383 true (
 J392 v119 h124) (J392 (NV.tuple []) h124)) fun J389 => gK v383 true (
 bK (ldO 1 false h124 (chkV h124 v384)) fun v525 =>
 J389 v525 h124) (J389 (NV.tuple []) h124)) fun J386 => gK v383 true (
 bK (fAddr 2 v120) fun v526 =>
 J386 v526 h124) (J386 (NV.tuple []) h124)) (
 bK (eqI v122 (NV.int .i64 (.ofNat 9))) fun v527 =>
 condK v527 (
 bK (fAddr 1 v120) fun v528 =>
 bK (ldO 1 false h124 (chkV h124 v528)) fun v529 =>
 bK (nilO v119) fun v530 =>
 bK (fAddr 0 v530) fun v531 =>
 bK (ldO 1 false h124 (chkV h124 v531)) fun v532 =>
 bK (nilO v532) fun v533 =>
 bK (fAddr 12 v533) fun v534 =>
 bK (ldO 1 false h124 (chkV h124 v534)) fun v535 =>
 bK (lenSl v535) fun v536 =>
 bK (ltI v529 v536) fun v537 =>
 retC v537 h124) (
 retC (NV.bool true) h124)))))))))) fun J125 =>
 condK v118 (
 J125 v73 v74 v75 v76 v118 h78) (
 bK (eqI v76 (NV.int .i64 (.ofNat 19))) fun v538 =>
 J125 v73 v74 v75 v76 v538 h78))) fun J79 =>
 condK v72 (
 J79 v0 v4 v13 v16 v72 h17) (
 bK (eqI v16 (NV.int .i64 (.ofNat 26))) fun v539 =>
 J79 v0 v4 v13 v16 v539 h17)))
theorem e254 : ikB Tryz.prog 9 Tryz.f254 = S254 := by kernel_rfl
theorem k254 [Sig] (w0 : World) : SOK cW w0 254 S254 := okW Tryz.func254 (by kernel_rfl) e254
noncomputable def S255 (call : CallF) (N : Nat) (l : List NV) (h : H) : R :=
 uc l fun v0 l1 => uc l1 fun v2 l3 => un l3 (
 bK (nilO v0) fun v4 =>
 bK (fAddr 4 v4) fun v5 =>
 bK (ldO 1 false h v5) fun v6 =>
 mK (appM Tryz.prog 3 v6 v2 h) fun v7 h8 =>
 bK (nilO v0) fun v9 =>
 bK (fAddr 4 v9) fun v10 =>
 mK (stM 1 v10 v7 h8) fun v11 h12 =>
 retC (NV.tuple []) h12)
theorem e255 : ikB Tryz.prog 9 Tryz.f255 = S255 := by kernel_rfl
theorem k255 [Sig] (w0 : World) : SOK cW w0 255 S255 := okW Tryz.func255 (by kernel_rfl) e255
noncomputable def S256 (call : CallF) (N : Nat) (l : List NV) (h : H) : R :=
 uc l fun v0 l1 => uc l1 fun v2 l3 => un l3 (
 mK (boxM false v2 h) fun v4 h5 =>
 mK (alM (NB.cells [NV.nslice, NV.nslice]) h5) fun v6 h7 =>
 bK (fAddr 1 v4) fun v8 =>
 bK (ldO 1 false h7 v8) fun v9 =>
 bK (eqI v9 (NV.int .i64 (.ofNat 1))) fun v10 =>
 joinC 3 (fun v11 v12 v13 h14 =>
 bK (fAddr 0 v12) fun v16 =>
 bK (ldO 1 false h14 v16) fun v17 =>
 bK (eqI v17 (NV.int .i64 (.ofNat 4))) fun v18 =>
 joinC 3 (fun v19 v20 v21 h22 =>
 bK (fAddr 0 v21) fun v24 =>
 bK (ldO 1 false h22 v24) fun v25 =>
 mK (calM call 196 [v19, v25] h22) fun v26 h27 =>
 bK (fAddr 1 v21) fun v28 =>
 bK (ldO 1 false h27 v28) fun v29 =>
 bK (fAddr 0 v20) fun v30 =>
 bK (ldO 1 false h27 v30) fun v31 =>
 bK (eqI v31 (NV.int .i64 (.ofNat 3))) fun v32 =>
 joinC 4 (fun v33 v34 v35 v36 h37 =>
 bK (fAddr 0 v35) fun v39 =>
 bK (ldO 1 false h37 v39) fun v40 =>
 bK (fAddr 1 v35) fun v41 =>
 bK (ldO 1 false h37 v41) fun v42 =>
 bK (fAddr 6 v34) fun v43 =>
 bK (ldO 1 false h37 v43) fun v44 =>
 mK (calM call 153 [v33, v40, v42, v36, v44] h37) fun v45 h46 =>
 bK (fAddr 8 v34) fun v47 =>
 bK (ldO 1 false h46 v47) fun v48 =>
 joinC 2 (fun v49 v50 h51 =>
 bK (fAddr 1 v50) fun v53 =>
 bK (ldO 1 false h51 v53) fun v54 =>
 mK (calM call 255 [v49, v54] h51) fun v55 h56 =>
 retC (NV.tuple []) h56) fun J52 =>
 condK v48 (
 bK (fAddr 0 v35) fun v57 =>
 bK (ldO 1 false h46 v57) fun v58 =>
 bK (fAddr 1 v35) fun v59 =>
 bK (ldO 1 false h46 v59) fun v60 =>
 bK (fAddr 7 v34) fun v61 =>
 bK (ldO 1 false h46 v61) fun v62 =>
 mK (calM call 153 [v33, v58, v60, v36, v62] h46) fun v63 h64 =>
 J52 v33 v35 h64) (
 J52 v33 v35 h46)) fun J38 =>
 condK v32 (
 bK (fAddr 0 v21) fun v65 =>
 bK (ldO 1 false h27 v65) fun v66 =>
 J38 v19 v20 v21 v66 h27) (
 J38 v19 v20 v21 v29 h27)) fun J23 =>
 condK v18 (
 mK (bslM 1 false [(0, 1)] [(NV.int .i64 (.ofNat 0))] [(NV.int .i64 (.ofNat 127))] h14) fun v67 h68 =>
 mK (calM call 196 [v11, v67] h68) fun v69 h70 =>
 bK (fAddr 8 v12) fun v71 =>
 bK (ldO 1 false h70 v71) fun v72 =>
 jK (fun v73 h74 =>
 jK (fun v76 h77 =>
 jK (fun v79 h80 =>
 jK (fun v82 h83 =>
 jK (fun v85 h86 =>
 bK (pickO v72 (NV.bool true) v85) fun v88 =>
 mK (calM call 197 [v11, v88] h86) fun v89 h90 =>
 J23 v11 v12 v13 h90) fun J87 => gK v72 false (
 mK (calM call 27 [v76, v82] h83) fun v91 h92 =>
 J87 v91 h92) (J87 (NV.tuple []) h83)) fun J84 => gK v72 false (
 bK (ldO 1 false h80 v79) fun v93 =>
 J84 v93 h80) (J84 (NV.tuple []) h80)) fun J81 => gK v72 false (
 bK (fAddr 1 v13) fun v94 =>
 J81 v94 h77) (J81 (NV.tuple []) h77)) fun J78 => gK v72 false (
 bK (ldO 1 false h74 v73) fun v95 =>
 J78 v95 h74) (J78 (NV.tuple []) h74)) fun J75 => gK v72 false (
 bK (fAddr 0 v13) fun v96 =>
 J75 v96 h70) (J75 (NV.tuple []) h70)) (
 J23 v11 v12 v13 h14)) fun J15 =>
 condK v10 (
 bK (fAddr 2 v4) fun v97 =>
 bK (ldO 1 false h7 v97) fun v98 =>
 mK (bslM 1 false [(0, 1)] [(NV.int .i64 (.ofNat 0))] [v98] h7) fun v99 h100 =>
 bK (fAddr 1 v6) fun v101 =>
 mK (stM 1 v101 v99 h100) fun v102 h103 =>
 J15 v0 v4 v6 h103) (
 bK (eqI v9 (NV.int .i64 (.ofNat 2))) fun v104 =>
 condK v104 (
 bK (fAddr 2 v4) fun v105 =>
 bK (ldO 1 false h7 (chkV h7 v105)) fun v106 =>
 bK (nilO v0) fun v107 =>
 bK (fAddr 0 v107) fun v108 =>
 bK (ldO 1 false h7 (chkV h7 v108)) fun v109 =>
 bK (nilO v109) fun v110 =>
 bK (fAddr 0 v110) fun v111 =>
 bK (fAddr 0 v111) fun v112 =>
 bK (ldO 1 false h7 (chkV h7 v112)) fun v113 =>
 bK (lenSl v113) fun v114 =>
 bK (geI v106 v114) fun v115 =>
 condK v115 (
 mK (calM call 197 [v0, (NV.bool false)] h7) fun v116 h117 =>
 retC (NV.tuple []) h117) (
 bK (nilO v0) fun v118 =>
 bK (fAddr 0 v118) fun v119 =>
 bK (ldO 1 false h7 (chkV h7 v119)) fun v120 =>
 bK (nilO v120) fun v121 =>
 bK (fAddr 0 v121) fun v122 =>
 bK (fAddr 0 v122) fun v123 =>
 bK (ldO 1 false h7 (chkV h7 v123)) fun v124 =>
 bK (fAddr 2 v4) fun v125 =>
 bK (ldO 1 false h7 (chkV h7 v125)) fun v126 =>
 bK (ixS 2 v124 v126) fun v127 =>
 bK (ldO 2 true h7 (chkV h7 v127)) fun v128 =>
 mK (stM 2 (chkV h7 v6) (chkV h7 v128) h7) fun v129 h130 =>
 nextK h7 h130 (
 J15 v0 v4 v6 h130))) (
 J15 v0 v4 v6 h7)))
theorem e256 : ikB Tryz.prog 9 Tryz.f256 = S256 := by kernel_rfl
theorem k256 [Sig] (w0 : World) : SOK cW w0 256 S256 := okW Tryz.func256 (by kernel_rfl) e256
noncomputable def S257 (call : CallF) (N : Nat) (l : List NV) (h : H) : R :=
 uc l fun v0 l1 => uc l1 fun v2 l3 => un l3 (
 mK (boxM false v2 h) fun v4 h5 =>
 bK (fAddr 0 v4) fun v6 =>
 bK (ldO 1 false h5 v6) fun v7 =>
 joinC 1 (fun v8 h9 =>
 mK (calM call 290 [v8] h9) fun v11 h12 =>
 retC (NV.tuple []) h12) fun J10 =>
 bK (eqI v7 (NV.int .i64 (.ofNat 13))) fun v13 =>
 condK v13 (
 mK (bslM 1 false [(0, 1)] [(NV.int .i64 (.ofNat 0))] [(NV.int .i64 (.ofNat 127))] h5) fun v14 h15 =>
 mK (calM call 196 [v0, v14] h15) fun v16 h17 =>
 bK (fAddr 1 v4) fun v18 =>
 bK (ldO 1 false h17 v18) fun v19 =>
 mK (calM call 289 [v0, v19] h17) fun v20 h21 =>
 mK (calM call 196 [v0, v20] h21) fun v22 h23 =>
 mK (calM call 255 [v0, v20] h23) fun v24 h25 =>
 retC (NV.tuple []) h25) (
 bK (eqI v7 (NV.int .i64 (.ofNat 16))) fun v26 =>
 condK v26 (
 bK (nilO v0) fun v27 =>
 bK (fAddr 0 v27) fun v28 =>
 bK (ldO 1 false h5 (chkV h5 v28)) fun v29 =>
 bK (fAddr 1 v4) fun v30 =>
 bK (ldO 1 false h5 (chkV h5 v30)) fun v31 =>
 mK (calM call 97 [(chkV h5 v29), (chkV h5 v31)] h5) fun v32 h33 =>
 nextK h5 h33 (
 bK (extO 0 v32) fun v34 =>
 bK (extO 1 v32) fun v35 =>
 mK (alM (NB.cells [NV.nslice, NV.nslice]) h33) fun v36 h37 =>
 mK (stM 2 (chkV h37 v36) (chkV h37 v34) h37) fun v38 h39 =>
 nextK h37 h39 (
 mK (calM call 197 [v0, v35] h39) fun v40 h41 =>
 bK (fAddr 0 v36) fun v42 =>
 bK (ldO 1 false h41 v42) fun v43 =>
 mK (calM call 196 [v0, v43] h41) fun v44 h45 =>
 bK (fAddr 1 v36) fun v46 =>
 bK (ldO 1 false h45 v46) fun v47 =>
 mK (calM call 255 [v0, v47] h45) fun v48 h49 =>
 retC (NV.tuple []) h49))) (
 bK (eqI v7 (NV.int .i64 (.ofNat 17))) fun v50 =>
 condK v50 (
 bK (fAddr 1 v4) fun v51 =>
 bK (ldO 1 false h5 (chkV h5 v51)) fun v52 =>
 bK (nilO v0) fun v53 =>
 bK (fAddr 0 v53) fun v54 =>
 bK (ldO 1 false h5 (chkV h5 v54)) fun v55 =>
 bK (nilO v55) fun v56 =>
 bK (fAddr 0 v56) fun v57 =>
 bK (fAddr 0 v57) fun v58 =>
 bK (ldO 1 false h5 (chkV h5 v58)) fun v59 =>
 bK (lenSl v59) fun v60 =>
 bK (ltI v52 v60) fun v61 =>
 jK (fun v62 h63 =>
 jK (fun v65 h66 =>
 jK (fun v68 h69 =>
 jK (fun v71 h72 =>
 jK (fun v74 h75 =>
 jK (fun v77 h78 =>
 jK (fun v80 h81 =>
 jK (fun v83 h84 =>
 jK (fun v86 h87 =>
 jK (fun v89 h90 =>
 jK (fun v92 h93 =>
 bK (pickO v61 v92 (NV.bool false)) fun v95 =>
 jK (fun v96 h97 =>
 jK (fun v99 h100 =>
 jK (fun v102 h103 =>
 jK (fun v105 h106 =>
 jK (fun v108 h109 =>
 jK (fun v111 h112 =>
 jK (fun v114 h115 =>
 jK (fun v117 h118 =>
 jK (fun v120 h121 =>
 jK (fun v123 h124 =>
 jK (fun v126 h127 =>
 jK (fun v129 h130 =>
 jK (fun v132 h133 =>
 bK (pickO v95 v132 (NV.bool false)) fun v135 =>
 mK (calM call 197 [(chkV h5 v0), (chkV h5 v135)] h5) fun v136 h137 =>
 nextK h5 h137 (
 bK (nilO v0) fun v138 =>
 bK (fAddr 6 v138) fun v139 =>
 bK (ldO 1 false h137 v139) fun v140 =>
 joinC 0 (fun h141 =>
 retC (NV.tuple []) h141) fun J142 =>
 condK v140 (
 mK (bslM 1 false [(0, 1)] [(NV.int .i64 (.ofNat 0))] [(NV.int .i64 (.ofNat 127))] h137) fun v143 h144 =>
 mK (calM call 196 [v0, v143] h144) fun v145 h146 =>
 bK (nilO v0) fun v147 =>
 bK (fAddr 0 v147) fun v148 =>
 bK (ldO 1 false h146 (chkV h146 v148)) fun v149 =>
 bK (nilO v149) fun v150 =>
 bK (fAddr 0 v150) fun v151 =>
 bK (fAddr 0 v151) fun v152 =>
 bK (ldO 1 false h146 (chkV h146 v152)) fun v153 =>
 bK (fAddr 1 v4) fun v154 =>
 bK (ldO 1 false h146 (chkV h146 v154)) fun v155 =>
 bK (ixS 2 v153 v155) fun v156 =>
 bK (fAddr 0 v156) fun v157 =>
 bK (ldO 1 false h146 (chkV h146 v157)) fun v158 =>
 mK (calM call 196 [(chkV h146 v0), (chkV h146 v158)] h146) fun v159 h160 =>
 nextK h146 h160 (
 bK (nilO v0) fun v161 =>
 bK (fAddr 0 v161) fun v162 =>
 bK (ldO 1 false h160 (chkV h160 v162)) fun v163 =>
 bK (nilO v163) fun v164 =>
 bK (fAddr 0 v164) fun v165 =>
 bK (fAddr 0 v165) fun v166 =>
 bK (ldO 1 false h160 (chkV h160 v166)) fun v167 =>
 bK (fAddr 1 v4) fun v168 =>
 bK (ldO 1 false h160 (chkV h160 v168)) fun v169 =>
 bK (ixS 2 v167 v169) fun v170 =>
 bK (fAddr 1 v170) fun v171 =>
 bK (ldO 1 false h160 (chkV h160 v171)) fun v172 =>
 mK (calM call 255 [(chkV h160 v0), (chkV h160 v172)] h160) fun v173 h174 =>
 nextK h160 h174 (
 J142 h174))) (
 J142 h137))) fun J134 => gK v95 true (
 bK (eqI v129 (NV.int .i64 (.ofNat 112))) fun v175 =>
 J134 v175 h5) (J134 (NV.tuple []) h5)) fun J131 => gK v95 true (
 bK (ldO 1 false h5 (chkV h5 v126)) fun v176 =>
 J131 v176 h5) (J131 (NV.tuple []) h5)) fun J128 => gK v95 true (
 bK (fAddr 0 v123) fun v177 =>
 J128 v177 h5) (J128 (NV.tuple []) h5)) fun J125 => gK v95 true (
 bK (ixS 4 v114 v120) fun v178 =>
 J125 v178 h5) (J125 (NV.tuple []) h5)) fun J122 => gK v95 true (
 bK (ldO 1 false h5 (chkV h5 v117)) fun v179 =>
 J122 v179 h5) (J122 (NV.tuple []) h5)) fun J119 => gK v95 true (
 bK (fAddr 2 v4) fun v180 =>
 J119 v180 h5) (J119 (NV.tuple []) h5)) fun J116 => gK v95 true (
 bK (ldO 1 false h5 (chkV h5 v111)) fun v181 =>
 J116 v181 h5) (J116 (NV.tuple []) h5)) fun J113 => gK v95 true (
 bK (fAddr 12 v108) fun v182 =>
 J113 v182 h5) (J113 (NV.tuple []) h5)) fun J110 => gK v95 true (
 bK (nilO v105) fun v183 =>
 J110 v183 h5) (J110 (NV.tuple []) h5)) fun J107 => gK v95 true (
 bK (ldO 1 false h5 (chkV h5 v102)) fun v184 =>
 J107 v184 h5) (J107 (NV.tuple []) h5)) fun J104 => gK v95 true (
 bK (fAddr 0 v99) fun v185 =>
 J104 v185 h5) (J104 (NV.tuple []) h5)) fun J101 => gK v95 true (
 bK (nilO v96) fun v186 =>
 J101 v186 h5) (J101 (NV.tuple []) h5)) fun J98 => gK v95 true (
 J98 v0 h5) (J98 (NV.tuple []) h5)) fun J94 => gK v61 true (
 bK (ltI v65 v89) fun v187 =>
 J94 v187 h5) (J94 (NV.tuple []) h5)) fun J91 => gK v61 true (
 bK (lenSl v86) fun v188 =>
 J91 v188 h5) (J91 (NV.tuple []) h5)) fun J88 => gK v61 true (
 bK (ldO 1 false h5 (chkV h5 v83)) fun v189 =>
 J88 v189 h5) (J88 (NV.tuple []) h5)) fun J85 => gK v61 true (
 bK (fAddr 12 v80) fun v190 =>
 J85 v190 h5) (J85 (NV.tuple []) h5)) fun J82 => gK v61 true (
 bK (nilO v77) fun v191 =>
 J82 v191 h5) (J82 (NV.tuple []) h5)) fun J79 => gK v61 true (
 bK (ldO 1 false h5 (chkV h5 v74)) fun v192 =>
 J79 v192 h5) (J79 (NV.tuple []) h5)) fun J76 => gK v61 true (
 bK (fAddr 0 v71) fun v193 =>
 J76 v193 h5) (J76 (NV.tuple []) h5)) fun J73 => gK v61 true (
 bK (nilO v68) fun v194 =>
 J73 v194 h5) (J73 (NV.tuple []) h5)) fun J70 => gK v61 true (
 J70 v0 h5) (J70 (NV.tuple []) h5)) fun J67 => gK v61 true (
 bK (ldO 1 false h5 (chkV h5 v62)) fun v195 =>
 J67 v195 h5) (J67 (NV.tuple []) h5)) fun J64 => gK v61 true (
 bK (fAddr 2 v4) fun v196 =>
 J64 v196 h5) (J64 (NV.tuple []) h5)) (
 bK (eqI v7 (NV.int .i64 (.ofNat 12))) fun v197 =>
 condK v197 (
 bK (fAddr 1 v4) fun v198 =>
 bK (ldO 1 false h5 v198) fun v199 =>
 mK (calM call 289 [v0, v199] h5) fun v200 h201 =>
 mK (calM call 196 [v0, v200] h201) fun v202 h203 =>
 J10 v0 h203) (
 bK (eqI v7 (NV.int .i64 (.ofNat 14))) fun v204 =>
 condK v204 (
 mK (bslM 1 false [(0, 1)] [(NV.int .i64 (.ofNat 0))] [(NV.int .i64 (.ofNat 127))] h5) fun v205 h206 =>
 mK (calM call 196 [v0, v205] h206) fun v207 h208 =>
 bK (fAddr 1 v4) fun v209 =>
 bK (ldO 1 false h208 v209) fun v210 =>
 mK (calM call 289 [v0, v210] h208) fun v211 h212 =>
 bK (fAddr 5 v4) fun v213 =>
 bK (ldO 1 false h212 v213) fun v214 =>
 bK (lenSl v214) fun v215 =>
 joinC 2 (fun v216 v217 h218 =>
 mK (calM call 196 [v216, v217] h218) fun v220 h221 =>
 J10 v216 h221) fun J219 =>
 loopC N 5 (fun L228 v222 v223 v224 v225 v226 h227 =>
 bK (ltI v226 v225) fun v229 =>
 condK v229 (
 bK (ixS 1 v224 v226) fun v230 =>
 bK (ldO 1 false h227 v230) fun v231 =>
 mK (calM call 289 [v222, v231] h227) fun v232 h233 =>
 bK (lenSl v232) fun v234 =>
 bK (lenSl v223) fun v235 =>
 bK (eqI v234 v235) fun v236 =>
 mK (calM call 197 [v222, v236] h233) fun v237 h238 =>
 bK (nilO v222) fun v239 =>
 bK (fAddr 4 v239) fun v240 =>
 bK (ldO 1 false h238 v240) fun v241 =>
 mK (calM call 41 [v241] h238) fun v242 h243 =>
 mK (calM call 196 [v222, v232] h243) fun v244 h245 =>
 bK (nilO v222) fun v246 =>
 bK (fAddr 4 v246) fun v247 =>
 mK (stM 1 v247 v242 h245) fun v248 h249 =>
 bK (addI v226 (NV.int .i64 (.ofNat 1))) fun v250 =>
 L228 v222 v223 v224 v225 v250 h249) (
 J219 v222 v223 h227)) v0 v211 v214 v215 (NV.int .i64 (.ofNat 0)) h212) (
 bK (eqI v7 (NV.int .i64 (.ofNat 15))) fun v251 =>
 condK v251 (
 bK (nilO v0) fun v252 =>
 bK (fAddr 2 v252) fun v253 =>
 bK (ldO 1 false h5 v253) fun v254 =>
 mK (calM call 196 [v0, v254] h5) fun v255 h256 =>
 J10 v0 h256) (
 J10 v0 h5)))))))
theorem e257 : ikB Tryz.prog 9 Tryz.f257 = S257 := by kernel_rfl
theorem k257 [Sig] (w0 : World) : SOK cW w0 257 S257 := okW Tryz.func257 (by kernel_rfl) e257
noncomputable def S259 (call : CallF) (N : Nat) (l : List NV) (h : H) : R :=
 uc l fun v0 l1 => uc l1 fun v2 l3 => uc l3 fun v4 l5 => un l5 (
 bK (gtI v2 (NV.int .i64 (.ofNat 0))) fun v6 =>
 joinC 3 (fun v7 v8 v9 h10 =>
 bK (neI v8 (NV.int .i64 (.ofNat 1))) fun v12 =>
 condK v12 (
 mK (bslM 1 false [(0, 1)] [(NV.int .i64 (.ofNat 0))] [v9] h10) fun v13 h14 =>
 mK (calM call 255 [v7, v13] h14) fun v15 h16 =>
 retC (NV.tuple []) h16) (
 retC (NV.tuple []) h10)) fun J11 =>
 condK v6 (
 mK (bslM 1 false [(0, 1)] [(NV.int .i64 (.ofNat 0))] [v4] h) fun v17 h18 =>
 mK (calM call 196 [v0, v17] h18) fun v19 h20 =>
 J11 v0 v2 v4 h20) (
 J11 v0 v2 v4 h))
theorem e259 : ikB Tryz.prog 9 Tryz.f259 = S259 := by kernel_rfl
theorem k259 [Sig] (w0 : World) : SOK cW w0 259 S259 := okW Tryz.func259 (by kernel_rfl) e259
noncomputable def S260 (call : CallF) (N : Nat) (l : List NV) (h : H) : R :=
 uc l fun v0 l1 => un l1 (
 bK (nilO v0) fun v2 =>
 bK (fAddr 4 v2) fun v3 =>
 bK (ldO 1 false h v3) fun v4 =>
 bK (lenSl v4) fun v5 =>
 bK (eqI v5 (NV.int .i64 (.ofNat 0))) fun v6 =>
 condK v6 (
 bK (nilO v0) fun v7 =>
 bK (fAddr 5 v7) fun v8 =>
 bK (ldO 1 false h v8) fun v9 =>
 mK (calM call 197 [v0, v9] h) fun v10 h11 =>
 retC (NV.int .i64 (.ofNat 0)) h11) (
 bK (nilO v0) fun v12 =>
 bK (fAddr 4 v12) fun v13 =>
 bK (ldO 1 false h v13) fun v14 =>
 bK (subI v5 (NV.int .i64 (.ofNat 1))) fun v15 =>
 bK (ixS 1 v14 v15) fun v16 =>
 bK (ldO 1 false h v16) fun v17 =>
 bK (nilO v0) fun v18 =>
 bK (fAddr 4 v18) fun v19 =>
 bK (ldO 1 false h v19) fun v20 =>
 bK (subI v5 (NV.int .i64 (.ofNat 1))) fun v21 =>
 bK (slcO Tryz.prog 41 h v20 none (some v21) none) fun v22 =>
 bK (nilO v0) fun v23 =>
 bK (fAddr 4 v23) fun v24 =>
 mK (stM 1 v24 v22 h) fun v25 h26 =>
 retC v17 h26))
theorem e260 : ikB Tryz.prog 9 Tryz.f260 = S260 := by kernel_rfl
theorem k260 [Sig] (w0 : World) : SOK cW w0 260 S260 := okW Tryz.func260 (by kernel_rfl) e260
noncomputable def S252 (call : CallF) (N : Nat) (l : List NV) (h : H) : R :=
 uc l fun v0 l1 => uc l1 fun v2 l3 => un l3 (
 mK (boxM false v0 h) fun v4 h5 =>
 bK (ldO 1 false h5 v2) fun v6 =>
 bK (ldO 9 true h5 v4) fun v7 =>
 mK (calV call v6 [v7] h5) fun v8 h9 =>
 bK (notO v8) fun v10 =>
 retC v10 h9)
theorem e252 : ikB Tryz.prog 9 Tryz.f252 = S252 := by kernel_rfl
theorem k252 [Sig] (w0 : World) : SOK cW w0 252 S252 := okW Tryz.func252 (by kernel_rfl) e252
noncomputable def S251 (call : CallF) (N : Nat) (l : List NV) (h : H) : R :=
 uc l fun v0 l1 => uc l1 fun v2 l3 => un l3 (
 mK (calM call 287 [v0, v2] h) fun v4 h5 =>
 bK (geI v4 (NV.int .i64 (.ofNat 0))) fun v6 =>
 retC v6 h5)
theorem e251 : ikB Tryz.prog 9 Tryz.f251 = S251 := by kernel_rfl
theorem k251 [Sig] (w0 : World) : SOK cW w0 251 S251 := okW Tryz.func251 (by kernel_rfl) e251
noncomputable def S253 (call : CallF) (N : Nat) (l : List NV) (h : H) : R :=
 uc l fun v0 l1 => un l1 (
 mK (boxM false v0 h) fun v2 h3 =>
 mK (alM (NB.cells [(NV.bool false), (NV.bool false), (NV.bool false), (NV.bool false), (NV.bool false)]) h3) fun v4 h5 =>
 bK (fAddr 1 v2) fun v6 =>
 bK (ldO 1 false h5 v6) fun v7 =>
 bK (neI v7 (NV.int .i64 (.ofNat 0))) fun v8 =>
 bK (fAddr 2 v2) fun v9 =>
 bK (ldO 1 false h5 v9) fun v10 =>
 bK (neI v10 (NV.int .i64 (.ofNat 0))) fun v11 =>
 bK (fAddr 3 v2) fun v12 =>
 bK (ldO 1 false h5 v12) fun v13 =>
 bK (neI v13 (NV.int .u64 (.ofNat 0))) fun v14 =>
 bK (fAddr 4 v2) fun v15 =>
 bK (ldO 1 false h5 v15) fun v16 =>
 bK (neI v16 (NV.int .u64 (.ofNat 0))) fun v17 =>
 bK (fAddr 5 v2) fun v18 =>
 bK (ldO 1 false h5 v18) fun v19 =>
 bK (lenSl v19) fun v20 =>
 bK (gtI v20 (NV.int .i64 (.ofNat 0))) fun v21 =>
 bK (bldO [(0, 1), (1, 1), (2, 1), (3, 1), (4, 1)] [(NV.bool false), (NV.bool false), (NV.bool false), (NV.bool false), (NV.bool false)] [v8, v11, v14, v17, v21]) fun v22 =>
 mK (stM 5 v4 v22 h5) fun v23 h24 =>
 bK (ldB 5 true h24 v4) fun v25 =>
 retC v25 h24)
theorem e253 : ikB Tryz.prog 9 Tryz.f253 = S253 := by kernel_rfl
theorem k253 [Sig] (w0 : World) : SOK cW w0 253 S253 := okW Tryz.func253 (by kernel_rfl) e253
noncomputable def S289 (call : CallF) (N : Nat) (l : List NV) (h : H) : R :=
 uc l fun v0 l1 => uc l1 fun v2 l3 => un l3 (
 bK (nilO v0) fun v4 =>
 bK (fAddr 3 v4) fun v5 =>
 bK (ldO 1 false h v5) fun v6 =>
 bK (lenSl v6) fun v7 =>
 bK (geI v2 v7) fun v8 =>
 condK v8 (
 mK (calM call 197 [v0, (NV.bool false)] h) fun v9 h10 =>
 retC NV.nslice h10) (
 bK (nilO v0) fun v11 =>
 bK (fAddr 3 v11) fun v12 =>
 bK (ldO 1 false h (chkV h v12)) fun v13 =>
 bK (nilO v0) fun v14 =>
 bK (fAddr 3 v14) fun v15 =>
 bK (ldO 1 false h (chkV h v15)) fun v16 =>
 bK (lenSl v16) fun v17 =>
 bK (subI v17 (NV.int .i64 (.ofNat 1))) fun v18 =>
 bK (subI v18 v2) fun v19 =>
 bK (ixS 1 v13 v19) fun v20 =>
 bK (ldO 1 false h (chkV h v20)) fun v21 =>
 retC v21 h))
theorem e289 : ikB Tryz.prog 9 Tryz.f289 = S289 := by kernel_rfl
theorem k289 [Sig] (w0 : World) : SOK cW w0 289 S289 := okW Tryz.func289 (by kernel_rfl) e289
noncomputable def S290 (call : CallF) (N : Nat) (l : List NV) (h : H) : R :=
 uc l fun v0 l1 => un l1 (
 bK (nilO v0) fun v2 =>
 bK (fAddr 4 v2) fun v3 =>
 mK (stM 1 v3 NV.nslice h) fun v4 h5 =>
 bK (nilO v0) fun v6 =>
 bK (fAddr 5 v6) fun v7 =>
 mK (stM 1 v7 (NV.bool true) h5) fun v8 h9 =>
 retC (NV.tuple []) h9)
theorem e290 : ikB Tryz.prog 9 Tryz.f290 = S290 := by kernel_rfl
theorem k290 [Sig] (w0 : World) : SOK cW w0 290 S290 := okW Tryz.func290 (by kernel_rfl) e290
noncomputable def S287 (call : CallF) (N : Nat) (l : List NV) (h : H) : R :=
 uc l fun v0 l1 => uc l1 fun v2 l3 => un l3 (
 bK (lenSl v0) fun v4 =>
 joinC 0 (fun h5 =>
 retC (NV.int .i64 (.negSucc 0)) h5) fun J6 =>
 loopC N 4 (fun L12 v7 v8 v9 v10 h11 =>
 bK (ltI v10 v9) fun v13 =>
 condK v13 (
 bK (ixS 9 v7 v10) fun v14 =>
 bK (ldO 9 true h11 v14) fun v15 =>
 mK (calV call v8 [v15] h11) fun v16 h17 =>
 condK v16 (
 retC v10 h17) (
 bK (addI v10 (NV.int .i64 (.ofNat 1))) fun v18 =>
 L12 v7 v8 v9 v18 h17)) (
 J6 h11)) v0 v2 v4 (NV.int .i64 (.ofNat 0)) h)
theorem e287 : ikB Tryz.prog 9 Tryz.f287 = S287 := by kernel_rfl
theorem k287 [Sig] (w0 : World) : SOK cW w0 287 S287 := okW Tryz.func287 (by kernel_rfl) e287
end Go.Proofs.YtcindejphmbjpaaGreatDoor

