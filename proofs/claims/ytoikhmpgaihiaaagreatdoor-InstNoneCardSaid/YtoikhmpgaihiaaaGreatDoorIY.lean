/- Seat instnone: bodkinref09.Fits, cut into its loops. -/
import Derived.Test.YtoikhmpgaihiaaaGreatDoorIW
set_option maxRecDepth 100000
set_option linter.unusedVariables false
namespace Go.Proofs.YtoikhmpgaihiaaaGreatDoor
open Go Go.Ne
noncomputable def fD (call : CallF) (J138 : NF 1) : NF 3 → NF 3 := fun L143 v139 v140 v141 h142 =>
 bK (fAddr 9 v139) fun v144 =>
 bK (ldO 1 false h142 v144) fun v145 =>
 bK (lenSl v145) fun v146 =>
 bK (ltI v141 v146) fun v147 =>
 jK (fun v148 h149 =>
 bK (pickO v147 v148 (NV.bool false)) fun v151 =>
 condK v151 (
 bK (fAddr 9 v139) fun v152 =>
 bK (ldO 1 false h149 v152) fun v153 =>
 bK (ixS 4 v153 v141) fun v154 =>
 bK (fAddr 2 v154) fun v155 =>
 bK (ldO 1 false h149 v155) fun v156 =>
 mK (calM call 9 [v156] h149) fun v157 h158 =>
 jK (fun v159 h160 =>
 jK (fun v162 h163 =>
 jK (fun v165 h166 =>
 jK (fun v168 h169 =>
 jK (fun v171 h172 =>
 jK (fun v174 h175 =>
 jK (fun v177 h178 =>
 jK (fun v180 h181 =>
 bK (pickO v157 v180 (NV.bool false)) fun v183 =>
 bK (addI v141 (NV.int .i64 (.ofNat 1))) fun v184 =>
 L143 v139 v183 v184 h181) fun J182 => gK v157 true (
 bK (leI v177 (NV.int .i64 (.ofNat 100000))) fun v185 =>
 J182 v185 h178) (J182 (NV.tuple []) h178)) fun J179 => gK v157 true (
 bK (lenSl v174) fun v186 =>
 J179 v186 h175) (J179 (NV.tuple []) h175)) fun J176 => gK v157 true (
 bK (ldO 1 false h172 v171) fun v187 =>
 J176 v187 h172) (J176 (NV.tuple []) h172)) fun J173 => gK v157 true (
 bK (fAddr 3 v168) fun v188 =>
 J173 v188 h169) (J173 (NV.tuple []) h169)) fun J170 => gK v157 true (
 bK (ixS 4 v162 v165) fun v189 =>
 J170 v189 h166) (J170 (NV.tuple []) h166)) fun J167 => gK v157 true (
 J167 v141 h163) (J167 (NV.tuple []) h163)) fun J164 => gK v157 true (
 bK (ldO 1 false h160 v159) fun v190 =>
 J164 v190 h160) (J164 (NV.tuple []) h160)) fun J161 => gK v157 true (
 bK (fAddr 9 v139) fun v191 =>
 J161 v191 h158) (J161 (NV.tuple []) h158)) (
 J138 v140 h149)) fun J150 => gK v147 true (
 J150 v140 h142) (J150 (NV.tuple []) h142)
noncomputable def fK (call : CallF) (J209 : NF 3) : NF 4 → NF 4 := fun L248 v243 v244 v245 v246 h247 =>
 bK (fAddr 8 v243) fun v249 =>
 bK (ldO 1 false h247 v249) fun v250 =>
 bK (ixS 5 v250 v245) fun v251 =>
 bK (fAddr 4 v251) fun v252 =>
 bK (ldO 1 false h247 v252) fun v253 =>
 bK (lenSl v253) fun v254 =>
 bK (ltI v246 v254) fun v255 =>
 jK (fun v256 h257 =>
 bK (pickO v255 v256 (NV.bool false)) fun v259 =>
 condK v259 (
 bK (fAddr 8 v243) fun v260 =>
 bK (ldO 1 false h257 v260) fun v261 =>
 bK (ixS 5 v261 v245) fun v262 =>
 bK (fAddr 4 v262) fun v263 =>
 bK (ldO 1 false h257 v263) fun v264 =>
 bK (ixS 1 v264 v246) fun v265 =>
 bK (ldO 1 false h257 v265) fun v266 =>
 mK (calM call 9 [v266] h257) fun v267 h268 =>
 bK (addI v246 (NV.int .i64 (.ofNat 1))) fun v269 =>
 L248 v243 v267 v245 v269 h268) (
 J209 v243 v244 v245 h257)) fun J258 => gK v255 true (
 J258 v244 h247) (J258 (NV.tuple []) h247)
noncomputable def fE (call : CallF) (N : Nat) (J135 : NF 2) : NF 3 → NF 3 := fun L196 v192 v193 v194 h195 =>
 bK (fAddr 8 v192) fun v197 =>
 bK (ldO 1 false h195 v197) fun v198 =>
 bK (lenSl v198) fun v199 =>
 bK (ltI v194 v199) fun v200 =>
 jK (fun v201 h202 =>
 bK (pickO v200 v201 (NV.bool false)) fun v204 =>
 condK v204 (
 joinC 3 (fun v205 v206 v207 h208 =>
 bK (addI v207 (NV.int .i64 (.ofNat 1))) fun v210 =>
 L196 v205 v206 v210 h208) fun J209 =>
 bK (fAddr 8 v192) fun v211 =>
 bK (ldO 1 false h202 v211) fun v212 =>
 bK (ixS 5 v212 v194) fun v213 =>
 bK (fAddr 3 v213) fun v214 =>
 bK (ldO 1 false h202 v214) fun v215 =>
 mK (calM call 9 [v215] h202) fun v216 h217 =>
 jK (fun v218 h219 =>
 jK (fun v221 h222 =>
 jK (fun v224 h225 =>
 jK (fun v227 h228 =>
 jK (fun v230 h231 =>
 jK (fun v233 h234 =>
 jK (fun v236 h237 =>
 jK (fun v239 h240 =>
 bK (pickO v216 v239 (NV.bool false)) fun v242 =>
 loopC N 4 (fK call J209) v192 v242 v194 (NV.int .i64 (.ofNat 0)) h240) fun J241 => gK v216 true (
 bK (leI v236 (NV.int .i64 (.ofNat 100))) fun v270 =>
 J241 v270 h237) (J241 (NV.tuple []) h237)) fun J238 => gK v216 true (
 bK (lenSl v233) fun v271 =>
 J238 v271 h234) (J238 (NV.tuple []) h234)) fun J235 => gK v216 true (
 bK (ldO 1 false h231 v230) fun v272 =>
 J235 v272 h231) (J235 (NV.tuple []) h231)) fun J232 => gK v216 true (
 bK (fAddr 4 v227) fun v273 =>
 J232 v273 h228) (J232 (NV.tuple []) h228)) fun J229 => gK v216 true (
 bK (ixS 5 v221 v224) fun v274 =>
 J229 v274 h225) (J229 (NV.tuple []) h225)) fun J226 => gK v216 true (
 J226 v194 h222) (J226 (NV.tuple []) h222)) fun J223 => gK v216 true (
 bK (ldO 1 false h219 v218) fun v275 =>
 J223 v275 h219) (J223 (NV.tuple []) h219)) fun J220 => gK v216 true (
 bK (fAddr 8 v192) fun v276 =>
 J220 v276 h217) (J220 (NV.tuple []) h217)) (
 J135 v192 v193 h202)) fun J203 => gK v200 true (
 J203 v193 h195) (J203 (NV.tuple []) h195)
noncomputable def fG (call : CallF) (J131 : NF 2) : NF 3 → NF 3 := fun L281 v277 v278 v279 h280 =>
 bK (fAddr 5 v277) fun v282 =>
 bK (ldO 1 false h280 v282) fun v283 =>
 bK (lenSl v283) fun v284 =>
 bK (ltI v279 v284) fun v285 =>
 jK (fun v286 h287 =>
 bK (pickO v285 v286 (NV.bool false)) fun v289 =>
 condK v289 (
 bK (fAddr 5 v277) fun v290 =>
 bK (ldO 1 false h287 v290) fun v291 =>
 bK (ixS 3 v291 v279) fun v292 =>
 bK (fAddr 2 v292) fun v293 =>
 bK (ldO 1 false h287 v293) fun v294 =>
 mK (calM call 9 [v294] h287) fun v295 h296 =>
 bK (addI v279 (NV.int .i64 (.ofNat 1))) fun v297 =>
 L281 v277 v295 v297 h296) (
 J131 v277 v278 h287)) fun J288 => gK v285 true (
 J288 v278 h280) (J288 (NV.tuple []) h280)
noncomputable def fF (call : CallF) (J127 : NF 2) : NF 3 → NF 3 := fun L302 v298 v299 v300 h301 =>
 bK (fAddr 2 v298) fun v303 =>
 bK (ldO 1 false h301 v303) fun v304 =>
 bK (lenSl v304) fun v305 =>
 bK (ltI v300 v305) fun v306 =>
 jK (fun v307 h308 =>
 bK (pickO v306 v307 (NV.bool false)) fun v310 =>
 condK v310 (
 bK (fAddr 2 v298) fun v311 =>
 bK (ldO 1 false h308 v311) fun v312 =>
 bK (ixS 3 v312 v300) fun v313 =>
 bK (fAddr 2 v313) fun v314 =>
 bK (ldO 1 false h308 v314) fun v315 =>
 mK (calM call 9 [v315] h308) fun v316 h317 =>
 jK (fun v318 h319 =>
 jK (fun v321 h322 =>
 jK (fun v324 h325 =>
 jK (fun v327 h328 =>
 jK (fun v330 h331 =>
 jK (fun v333 h334 =>
 jK (fun v336 h337 =>
 jK (fun v339 h340 =>
 bK (pickO v316 v339 (NV.bool false)) fun v342 =>
 bK (addI v300 (NV.int .i64 (.ofNat 1))) fun v343 =>
 L302 v298 v342 v343 h340) fun J341 => gK v316 true (
 bK (leI v336 (NV.int .i64 (.ofNat 60000))) fun v344 =>
 J341 v344 h337) (J341 (NV.tuple []) h337)) fun J338 => gK v316 true (
 bK (lenSl v333) fun v345 =>
 J338 v345 h334) (J338 (NV.tuple []) h334)) fun J335 => gK v316 true (
 bK (ldO 1 false h331 v330) fun v346 =>
 J335 v346 h331) (J335 (NV.tuple []) h331)) fun J332 => gK v316 true (
 bK (fAddr 1 v327) fun v347 =>
 J332 v347 h328) (J332 (NV.tuple []) h328)) fun J329 => gK v316 true (
 bK (ixS 3 v321 v324) fun v348 =>
 J329 v348 h325) (J329 (NV.tuple []) h325)) fun J326 => gK v316 true (
 J326 v300 h322) (J326 (NV.tuple []) h322)) fun J323 => gK v316 true (
 bK (ldO 1 false h319 v318) fun v349 =>
 J323 v349 h319) (J323 (NV.tuple []) h319)) fun J320 => gK v316 true (
 bK (fAddr 2 v298) fun v350 =>
 J320 v350 h317) (J320 (NV.tuple []) h317)) (
 J127 v298 v299 h308)) fun J309 => gK v306 true (
 J309 v299 h301) (J309 (NV.tuple []) h301)
noncomputable def fX (call : CallF) (J123 : NF 2) : NF 3 → NF 3 := fun L355 v351 v352 v353 h354 =>
 bK (fAddr 6 v351) fun v356 =>
 bK (ldO 1 false h354 v356) fun v357 =>
 bK (lenSl v357) fun v358 =>
 bK (ltI v353 v358) fun v359 =>
 jK (fun v360 h361 =>
 bK (pickO v359 v360 (NV.bool false)) fun v363 =>
 condK v363 (
 bK (fAddr 6 v351) fun v364 =>
 bK (ldO 1 false h361 v364) fun v365 =>
 bK (ixS 3 v365 v353) fun v366 =>
 bK (fAddr 0 v366) fun v367 =>
 bK (ldO 1 false h361 v367) fun v368 =>
 bK (lenStr v368) fun v369 =>
 bK (leI v369 (NV.int .i64 (.ofNat 1000))) fun v370 =>
 bK (addI v353 (NV.int .i64 (.ofNat 1))) fun v371 =>
 L355 v351 v370 v371 h361) (
 J123 v351 v352 h361)) fun J362 => gK v359 true (
 J362 v352 h354) (J362 (NV.tuple []) h354)
noncomputable def fI (call : CallF) (J119 : NF 2) : NF 3 → NF 3 := fun L376 v372 v373 v374 h375 =>
 bK (fAddr 1 v372) fun v377 =>
 bK (ldO 1 false h375 v377) fun v378 =>
 bK (lenSl v378) fun v379 =>
 bK (ltI v374 v379) fun v380 =>
 jK (fun v381 h382 =>
 bK (pickO v380 v381 (NV.bool false)) fun v384 =>
 condK v384 (
 bK (fAddr 1 v372) fun v385 =>
 bK (ldO 1 false h382 v385) fun v386 =>
 bK (ixS 13 v386 v374) fun v387 =>
 bK (fAddr 0 v387) fun v388 =>
 bK (ldO 1 false h382 v388) fun v389 =>
 bK (lenStr v389) fun v390 =>
 bK (leI v390 (NV.int .i64 (.ofNat 1000))) fun v391 =>
 jK (fun v392 h393 =>
 jK (fun v395 h396 =>
 jK (fun v398 h399 =>
 jK (fun v401 h402 =>
 jK (fun v404 h405 =>
 jK (fun v407 h408 =>
 jK (fun v410 h411 =>
 jK (fun v413 h414 =>
 bK (pickO v391 v413 (NV.bool false)) fun v416 =>
 bK (addI v374 (NV.int .i64 (.ofNat 1))) fun v417 =>
 L376 v372 v416 v417 h414) fun J415 => gK v391 true (
 bK (leI v410 (NV.int .i64 (.ofNat 1000))) fun v418 =>
 J415 v418 h411) (J415 (NV.tuple []) h411)) fun J412 => gK v391 true (
 bK (lenStr v407) fun v419 =>
 J412 v419 h408) (J412 (NV.tuple []) h408)) fun J409 => gK v391 true (
 bK (ldO 1 false h405 v404) fun v420 =>
 J409 v420 h405) (J409 (NV.tuple []) h405)) fun J406 => gK v391 true (
 bK (fAddr 1 v401) fun v421 =>
 J406 v421 h402) (J406 (NV.tuple []) h402)) fun J403 => gK v391 true (
 bK (ixS 13 v395 v398) fun v422 =>
 J403 v422 h399) (J403 (NV.tuple []) h399)) fun J400 => gK v391 true (
 J400 v374 h396) (J400 (NV.tuple []) h396)) fun J397 => gK v391 true (
 bK (ldO 1 false h393 v392) fun v423 =>
 J397 v423 h393) (J397 (NV.tuple []) h393)) fun J394 => gK v391 true (
 bK (fAddr 1 v372) fun v424 =>
 J394 v424 h382) (J394 (NV.tuple []) h382)) (
 J119 v372 v373 h382)) fun J383 => gK v380 true (
 J383 v373 h375) (J383 (NV.tuple []) h375)
noncomputable def fT (call : CallF) (J115 : NF 2) : NF 3 → NF 3 := fun L429 v425 v426 v427 h428 =>
 bK (fAddr 0 v425) fun v430 =>
 bK (ldO 1 false h428 v430) fun v431 =>
 bK (lenSl v431) fun v432 =>
 bK (ltI v427 v432) fun v433 =>
 jK (fun v434 h435 =>
 bK (pickO v433 v434 (NV.bool false)) fun v437 =>
 condK v437 (
 bK (fAddr 0 v425) fun v438 =>
 bK (ldO 1 false h435 v438) fun v439 =>
 bK (ixS 2 v439 v427) fun v440 =>
 bK (fAddr 0 v440) fun v441 =>
 bK (ldO 1 false h435 v441) fun v442 =>
 bK (lenSl v442) fun v443 =>
 bK (leI v443 (NV.int .i64 (.ofNat 1000))) fun v444 =>
 jK (fun v445 h446 =>
 jK (fun v448 h449 =>
 jK (fun v451 h452 =>
 jK (fun v454 h455 =>
 jK (fun v457 h458 =>
 jK (fun v460 h461 =>
 jK (fun v463 h464 =>
 jK (fun v466 h467 =>
 bK (pickO v444 v466 (NV.bool false)) fun v469 =>
 bK (addI v427 (NV.int .i64 (.ofNat 1))) fun v470 =>
 L429 v425 v469 v470 h467) fun J468 => gK v444 true (
 bK (leI v463 (NV.int .i64 (.ofNat 1000))) fun v471 =>
 J468 v471 h464) (J468 (NV.tuple []) h464)) fun J465 => gK v444 true (
 bK (lenSl v460) fun v472 =>
 J465 v472 h461) (J465 (NV.tuple []) h461)) fun J462 => gK v444 true (
 bK (ldO 1 false h458 v457) fun v473 =>
 J462 v473 h458) (J462 (NV.tuple []) h458)) fun J459 => gK v444 true (
 bK (fAddr 1 v454) fun v474 =>
 J459 v474 h455) (J459 (NV.tuple []) h455)) fun J456 => gK v444 true (
 bK (ixS 2 v448 v451) fun v475 =>
 J456 v475 h452) (J456 (NV.tuple []) h452)) fun J453 => gK v444 true (
 J453 v427 h449) (J453 (NV.tuple []) h449)) fun J450 => gK v444 true (
 bK (ldO 1 false h446 v445) fun v476 =>
 J450 v476 h446) (J450 (NV.tuple []) h446)) fun J447 => gK v444 true (
 bK (fAddr 0 v425) fun v477 =>
 J447 v477 h435) (J447 (NV.tuple []) h435)) (
 J115 v425 v426 h435)) fun J436 => gK v433 true (
 J436 v426 h428) (J436 (NV.tuple []) h428)
noncomputable def headS (K : NV → NV → H → R) (l : List NV) (h : H) : R :=
 uc l fun v0 l1 => un l1 (
 mK (boxM false v0 h) fun v2 h3 =>
 bK (fAddr 0 v2) fun v4 =>
 bK (ldO 1 false h3 v4) fun v5 =>
 bK (lenSl v5) fun v6 =>
 bK (leI v6 (NV.int .i64 (.ofNat 100))) fun v7 =>
 jK (fun v8 h9 =>
 jK (fun v11 h12 =>
 jK (fun v14 h15 =>
 jK (fun v17 h18 =>
 bK (pickO v7 v17 (NV.bool false)) fun v20 =>
 jK (fun v21 h22 =>
 jK (fun v24 h25 =>
 jK (fun v27 h28 =>
 jK (fun v30 h31 =>
 bK (pickO v20 v30 (NV.bool false)) fun v33 =>
 jK (fun v34 h35 =>
 jK (fun v37 h38 =>
 jK (fun v40 h41 =>
 jK (fun v43 h44 =>
 bK (pickO v33 v43 (NV.bool false)) fun v46 =>
 jK (fun v47 h48 =>
 jK (fun v50 h51 =>
 jK (fun v53 h54 =>
 jK (fun v56 h57 =>
 bK (pickO v46 v56 (NV.bool false)) fun v59 =>
 jK (fun v60 h61 =>
 jK (fun v63 h64 =>
 jK (fun v66 h67 =>
 jK (fun v69 h70 =>
 bK (pickO v59 v69 (NV.bool false)) fun v72 =>
 jK (fun v73 h74 =>
 jK (fun v76 h77 =>
 jK (fun v79 h80 =>
 jK (fun v82 h83 =>
 bK (pickO v72 v82 (NV.bool false)) fun v85 =>
 jK (fun v86 h87 =>
 jK (fun v89 h90 =>
 jK (fun v92 h93 =>
 jK (fun v95 h96 =>
 bK (pickO v85 v95 (NV.bool false)) fun v98 =>
 jK (fun v99 h100 =>
 jK (fun v102 h103 =>
 jK (fun v105 h106 =>
 jK (fun v108 h109 =>
 bK (pickO v98 v108 (NV.bool false)) fun v111 =>
 K v2 v111 h109) fun J110 => gK v98 true (
 bK (leI v105 (NV.int .i64 (.ofNat 50))) fun v478 =>
 J110 v478 h106) (J110 (NV.tuple []) h106)) fun J107 => gK v98 true (
 bK (lenSl v102) fun v479 =>
 J107 v479 h103) (J107 (NV.tuple []) h103)) fun J104 => gK v98 true (
 bK (ldO 1 false h100 v99) fun v480 =>
 J104 v480 h100) (J104 (NV.tuple []) h100)) fun J101 => gK v98 true (
 bK (fAddr 9 v2) fun v481 =>
 J101 v481 h96) (J101 (NV.tuple []) h96)) fun J97 => gK v85 true (
 bK (leI v92 (NV.int .i64 (.ofNat 50))) fun v482 =>
 J97 v482 h93) (J97 (NV.tuple []) h93)) fun J94 => gK v85 true (
 bK (lenSl v89) fun v483 =>
 J94 v483 h90) (J94 (NV.tuple []) h90)) fun J91 => gK v85 true (
 bK (ldO 1 false h87 v86) fun v484 =>
 J91 v484 h87) (J91 (NV.tuple []) h87)) fun J88 => gK v85 true (
 bK (fAddr 8 v2) fun v485 =>
 J88 v485 h83) (J88 (NV.tuple []) h83)) fun J84 => gK v72 true (
 bK (leI v79 (NV.int .i64 (.ofNat 100))) fun v486 =>
 J84 v486 h80) (J84 (NV.tuple []) h80)) fun J81 => gK v72 true (
 bK (lenSl v76) fun v487 =>
 J81 v487 h77) (J81 (NV.tuple []) h77)) fun J78 => gK v72 true (
 bK (ldO 1 false h74 v73) fun v488 =>
 J78 v488 h74) (J78 (NV.tuple []) h74)) fun J75 => gK v72 true (
 bK (fAddr 6 v2) fun v489 =>
 J75 v489 h70) (J75 (NV.tuple []) h70)) fun J71 => gK v59 true (
 bK (leI v66 (NV.int .i64 (.ofNat 50))) fun v490 =>
 J71 v490 h67) (J71 (NV.tuple []) h67)) fun J68 => gK v59 true (
 bK (lenSl v63) fun v491 =>
 J68 v491 h64) (J68 (NV.tuple []) h64)) fun J65 => gK v59 true (
 bK (ldO 1 false h61 v60) fun v492 =>
 J65 v492 h61) (J65 (NV.tuple []) h61)) fun J62 => gK v59 true (
 bK (fAddr 5 v2) fun v493 =>
 J62 v493 h57) (J62 (NV.tuple []) h57)) fun J58 => gK v46 true (
 bK (leI v53 (NV.int .i64 (.ofNat 100))) fun v494 =>
 J58 v494 h54) (J58 (NV.tuple []) h54)) fun J55 => gK v46 true (
 bK (lenSl v50) fun v495 =>
 J55 v495 h51) (J55 (NV.tuple []) h51)) fun J52 => gK v46 true (
 bK (ldO 1 false h48 v47) fun v496 =>
 J52 v496 h48) (J52 (NV.tuple []) h48)) fun J49 => gK v46 true (
 bK (fAddr 4 v2) fun v497 =>
 J49 v497 h44) (J49 (NV.tuple []) h44)) fun J45 => gK v33 true (
 bK (leI v40 (NV.int .i64 (.ofNat 100))) fun v498 =>
 J45 v498 h41) (J45 (NV.tuple []) h41)) fun J42 => gK v33 true (
 bK (lenSl v37) fun v499 =>
 J42 v499 h38) (J42 (NV.tuple []) h38)) fun J39 => gK v33 true (
 bK (ldO 1 false h35 v34) fun v500 =>
 J39 v500 h35) (J39 (NV.tuple []) h35)) fun J36 => gK v33 true (
 bK (fAddr 3 v2) fun v501 =>
 J36 v501 h31) (J36 (NV.tuple []) h31)) fun J32 => gK v20 true (
 bK (leI v27 (NV.int .i64 (.ofNat 50))) fun v502 =>
 J32 v502 h28) (J32 (NV.tuple []) h28)) fun J29 => gK v20 true (
 bK (lenSl v24) fun v503 =>
 J29 v503 h25) (J29 (NV.tuple []) h25)) fun J26 => gK v20 true (
 bK (ldO 1 false h22 v21) fun v504 =>
 J26 v504 h22) (J26 (NV.tuple []) h22)) fun J23 => gK v20 true (
 bK (fAddr 2 v2) fun v505 =>
 J23 v505 h18) (J23 (NV.tuple []) h18)) fun J19 => gK v7 true (
 bK (leI v14 (NV.int .i64 (.ofNat 100))) fun v506 =>
 J19 v506 h15) (J19 (NV.tuple []) h15)) fun J16 => gK v7 true (
 bK (lenSl v11) fun v507 =>
 J16 v507 h12) (J16 (NV.tuple []) h12)) fun J13 => gK v7 true (
 bK (ldO 1 false h9 v8) fun v508 =>
 J13 v508 h9) (J13 (NV.tuple []) h9)) fun J10 => gK v7 true (
 bK (fAddr 1 v2) fun v509 =>
 J10 v509 h3) (J10 (NV.tuple []) h3))
theorem S5_f : S5 = fun (call : CallF) (N : Nat) (l : List NV) (h : H) => headS (fun p b h => loopC N 3 (fT call (fun p b h => loopC N 3 (fI call (fun p b h => loopC N 3 (fX call (fun p b h => loopC N 3 (fF call (fun p b h => loopC N 3 (fG call (fun p b h => loopC N 3 (fE call N (fun p b h => loopC N 3 (fD call (fun v h => retC v h)) p b (NV.int .i64 (.ofNat 0)) h)) p b (NV.int .i64 (.ofNat 0)) h)) p b (NV.int .i64 (.ofNat 0)) h)) p b (NV.int .i64 (.ofNat 0)) h)) p b (NV.int .i64 (.ofNat 0)) h)) p b (NV.int .i64 (.ofNat 0)) h)) p b (NV.int .i64 (.ofNat 0)) h) l h := by kernel_rfl
theorem S5_eq (call : CallF) (N : Nat) (l : List NV) (h : H) : S5 call N l h = headS (fun p b h => loopC N 3 (fT call (fun p b h => loopC N 3 (fI call (fun p b h => loopC N 3 (fX call (fun p b h => loopC N 3 (fF call (fun p b h => loopC N 3 (fG call (fun p b h => loopC N 3 (fE call N (fun p b h => loopC N 3 (fD call (fun v h => retC v h)) p b (NV.int .i64 (.ofNat 0)) h)) p b (NV.int .i64 (.ofNat 0)) h)) p b (NV.int .i64 (.ofNat 0)) h)) p b (NV.int .i64 (.ofNat 0)) h)) p b (NV.int .i64 (.ofNat 0)) h)) p b (NV.int .i64 (.ofNat 0)) h)) p b (NV.int .i64 (.ofNat 0)) h) l h := by rw [S5_f]
end Go.Proofs.YtoikhmpgaihiaaaGreatDoor
