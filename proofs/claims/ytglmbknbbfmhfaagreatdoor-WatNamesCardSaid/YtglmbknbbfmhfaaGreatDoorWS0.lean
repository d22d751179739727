/- Seat wat: the shallow functions of this program, part 0: printed by a program, each held against the staged interpreter by the kernel. -/
import Derived.Test.YtglmbknbbfmhfaaGreatDoorWA
set_option maxRecDepth 100000
set_option linter.unusedVariables false
namespace Go.Proofs.YtglmbknbbfmhfaaGreatDoor
open Go Go.Ne
noncomputable def S5 (call : CallF) (N : Nat) (l : List NV) (h : H) : R :=
 uc l fun v0 l1 => uc l1 fun v2 l3 => uc l3 fun v4 l5 => un l5 (
 mK (calM call 6 [] h) fun v6 h7 =>
 bK (notO v6) fun v8 =>
 condK v8 (
 retC (NV.bool false) h7) (
 bK (binO .and v0 (NV.int .i64 (.ofNat 7))) fun v9 =>
 bK (binO .and v2 (NV.int .i64 (.ofNat 7))) fun v10 =>
 bK (binO .and v4 (NV.int .i64 (.ofNat 1))) fun v11 =>
 joinC 4 (fun v12 v13 v14 v15 h16 =>
 mK (bslM 2 false [(0, 1), (1, 1)] [(NV.str 0 0), (NV.str 0 0)] [(NV.str 8 8388275502630855011), (NV.str 10 195764424326328952644392)] h16) fun v18 h19 =>
 bK (ixS 1 v18 v14) fun v20 =>
 bK (ldO 1 false h19 v20) fun v21 =>
 bK (binO .add (NV.str 10 152986713049734034318888) v21) fun v22 =>
 bK (binO .add v22 (NV.str 2 8233)) fun v23 =>
 bK (binO .add v15 v23) fun v24 =>
 joinC 3 (fun v25 v26 v27 h28 =>
 bK (binO .add v27 (NV.str 47 24888507009687017952569761986816056497643194318162695369926944208574297871304316365851426210727007707748581598760)) fun v30 =>
 mK (calM call 7 [v30] h28) fun v31 h32 =>
 bK (extO 0 v31) fun v33 =>
 bK (extO 1 v31) fun v34 =>
 mK (alM (NB.cells [NV.nslice, NV.nslice, NV.nslice, NV.nslice, NV.nslice, NV.nslice, NV.nslice, (NV.int .i64 (.ofNat 0)), NV.nslice, NV.nslice, (NV.bool false)]) h32) fun v35 h36 =>
 mK (stM 11 v35 v33 h36) fun v37 h38 =>
 bK (eqI v34 (NV.int .i64 (.ofNat 0))) fun v39 =>
 jK (fun v40 h41 =>
 jK (fun v43 h44 =>
 jK (fun v46 h47 =>
 jK (fun v49 h50 =>
 jK (fun v52 h53 =>
 jK (fun v55 h56 =>
 jK (fun v58 h59 =>
 jK (fun v61 h62 =>
 bK (pickO v39 v61 (NV.bool false)) fun v64 =>
 jK (fun v65 h66 =>
 jK (fun v68 h69 =>
 jK (fun v71 h72 =>
 jK (fun v74 h75 =>
 bK (pickO v64 v74 (NV.bool false)) fun v77 =>
 jK (fun v78 h79 =>
 jK (fun v81 h82 =>
 jK (fun v84 h85 =>
 jK (fun v87 h88 =>
 jK (fun v90 h91 =>
 jK (fun v93 h94 =>
 jK (fun v96 h97 =>
 jK (fun v99 h100 =>
 bK (pickO v77 v99 (NV.bool false)) fun v102 =>
 jK (fun v103 h104 =>
 jK (fun v106 h107 =>
 jK (fun v109 h110 =>
 jK (fun v112 h113 =>
 jK (fun v115 h116 =>
 jK (fun v118 h119 =>
 jK (fun v121 h122 =>
 jK (fun v124 h125 =>
 jK (fun v127 h128 =>
 jK (fun v130 h131 =>
 bK (pickO v102 v130 (NV.bool false)) fun v133 =>
 jK (fun v134 h135 =>
 jK (fun v137 h138 =>
 jK (fun v140 h141 =>
 jK (fun v143 h144 =>
 jK (fun v146 h147 =>
 jK (fun v149 h150 =>
 jK (fun v152 h153 =>
 jK (fun v155 h156 =>
 jK (fun v158 h159 =>
 jK (fun v161 h162 =>
 jK (fun v164 h165 =>
 jK (fun v167 h168 =>
 jK (fun v170 h171 =>
 jK (fun v173 h174 =>
 bK (pickO v133 v173 (NV.bool false)) fun v176 =>
 jK (fun v177 h178 =>
 jK (fun v180 h181 =>
 jK (fun v183 h184 =>
 jK (fun v186 h187 =>
 jK (fun v189 h190 =>
 jK (fun v192 h193 =>
 jK (fun v195 h196 =>
 jK (fun v198 h199 =>
 jK (fun v201 h202 =>
 jK (fun v204 h205 =>
 bK (pickO v176 v204 (NV.bool false)) fun v207 =>
 jK (fun v208 h209 =>
 jK (fun v211 h212 =>
 jK (fun v214 h215 =>
 jK (fun v217 h218 =>
 jK (fun v220 h221 =>
 bK (pickO v207 v220 (NV.bool false)) fun v223 =>
 retC v223 h221) fun J222 => gK v207 true (
 bK (eqI v211 v217) fun v224 =>
 J222 v224 h218) (J222 (NV.tuple []) h218)) fun J219 => gK v207 true (
 bK (addI v214 (NV.int .i64 (.ofNat 1))) fun v225 =>
 J219 v225 h215) (J219 (NV.tuple []) h215)) fun J216 => gK v207 true (
 J216 v25 h212) (J216 (NV.tuple []) h212)) fun J213 => gK v207 true (
 bK (ldO 1 false h209 v208) fun v226 =>
 J213 v226 h209) (J213 (NV.tuple []) h209)) fun J210 => gK v207 true (
 bK (fAddr 7 v35) fun v227 =>
 J210 v227 h205) (J210 (NV.tuple []) h205)) fun J206 => gK v176 true (
 bK (eqI v189 v201) fun v228 =>
 J206 v228 h202) (J206 (NV.tuple []) h202)) fun J203 => gK v176 true (
 bK (addI v198 (NV.int .i64 (.ofNat 1))) fun v229 =>
 J203 v229 h199) (J203 (NV.tuple []) h199)) fun J200 => gK v176 true (
 bK (addI v192 v195) fun v230 =>
 J200 v230 h196) (J200 (NV.tuple []) h196)) fun J197 => gK v176 true (
 J197 v26 h193) (J197 (NV.tuple []) h193)) fun J194 => gK v176 true (
 J194 v25 h190) (J194 (NV.tuple []) h190)) fun J191 => gK v176 true (
 bK (ldO 1 false h187 v186) fun v231 =>
 J191 v231 h187) (J191 (NV.tuple []) h187)) fun J188 => gK v176 true (
 bK (fAddr 2 v183) fun v232 =>
 J188 v232 h184) (J188 (NV.tuple []) h184)) fun J185 => gK v176 true (
 bK (ixS 3 v180 (NV.int .i64 (.ofNat 0))) fun v233 =>
 J185 v233 h181) (J185 (NV.tuple []) h181)) fun J182 => gK v176 true (
 bK (ldO 1 false h178 v177) fun v234 =>
 J182 v234 h178) (J182 (NV.tuple []) h178)) fun J179 => gK v176 true (
 bK (fAddr 6 v35) fun v235 =>
 J179 v235 h174) (J179 (NV.tuple []) h174)) fun J175 => gK v133 true (
 bK (eqI v158 v170) fun v236 =>
 J175 v236 h171) (J175 (NV.tuple []) h171)) fun J172 => gK v133 true (
 bK (addI v167 (NV.int .i64 (.ofNat 1))) fun v237 =>
 J172 v237 h168) (J172 (NV.tuple []) h168)) fun J169 => gK v133 true (
 bK (addI v161 v164) fun v238 =>
 J169 v238 h165) (J169 (NV.tuple []) h165)) fun J166 => gK v133 true (
 J166 v26 h162) (J166 (NV.tuple []) h162)) fun J163 => gK v133 true (
 J163 v25 h159) (J163 (NV.tuple []) h159)) fun J160 => gK v133 true (
 bK (ldO 1 false h156 v155) fun v239 =>
 J160 v239 h156) (J160 (NV.tuple []) h156)) fun J157 => gK v133 true (
 bK (fAddr 1 v152) fun v240 =>
 J157 v240 h153) (J157 (NV.tuple []) h153)) fun J154 => gK v133 true (
 bK (ixS 9 v149 (NV.int .i64 (.ofNat 0))) fun v241 =>
 J154 v241 h150) (J154 (NV.tuple []) h150)) fun J151 => gK v133 true (
 bK (ldO 1 false h147 v146) fun v242 =>
 J151 v242 h147) (J151 (NV.tuple []) h147)) fun J148 => gK v133 true (
 bK (fAddr 2 v143) fun v243 =>
 J148 v243 h144) (J148 (NV.tuple []) h144)) fun J145 => gK v133 true (
 bK (ixS 3 v137 v140) fun v244 =>
 J145 v244 h141) (J145 (NV.tuple []) h141)) fun J142 => gK v133 true (
 J142 v25 h138) (J142 (NV.tuple []) h138)) fun J139 => gK v133 true (
 bK (ldO 1 false h135 v134) fun v245 =>
 J139 v245 h135) (J139 (NV.tuple []) h135)) fun J136 => gK v133 true (
 bK (fAddr 2 v35) fun v246 =>
 J136 v246 h131) (J136 (NV.tuple []) h131)) fun J132 => gK v102 true (
 bK (eqI v127 (NV.int .i64 (.ofNat 16))) fun v247 =>
 J132 v247 h128) (J132 (NV.tuple []) h128)) fun J129 => gK v102 true (
 bK (ldO 1 false h125 v124) fun v248 =>
 J129 v248 h125) (J129 (NV.tuple []) h125)) fun J126 => gK v102 true (
 bK (fAddr 0 v121) fun v249 =>
 J126 v249 h122) (J126 (NV.tuple []) h122)) fun J123 => gK v102 true (
 bK (ixS 9 v118 (NV.int .i64 (.ofNat 0))) fun v250 =>
 J123 v250 h119) (J123 (NV.tuple []) h119)) fun J120 => gK v102 true (
 bK (ldO 1 false h116 v115) fun v251 =>
 J120 v251 h116) (J120 (NV.tuple []) h116)) fun J117 => gK v102 true (
 bK (fAddr 2 v112) fun v252 =>
 J117 v252 h113) (J117 (NV.tuple []) h113)) fun J114 => gK v102 true (
 bK (ixS 3 v106 v109) fun v253 =>
 J114 v253 h110) (J114 (NV.tuple []) h110)) fun J111 => gK v102 true (
 J111 v25 h107) (J111 (NV.tuple []) h107)) fun J108 => gK v102 true (
 bK (ldO 1 false h104 v103) fun v254 =>
 J108 v254 h104) (J108 (NV.tuple []) h104)) fun J105 => gK v102 true (
 bK (fAddr 2 v35) fun v255 =>
 J105 v255 h100) (J105 (NV.tuple []) h100)) fun J101 => gK v77 true (
 bK (eqI v96 (NV.int .i64 (.ofNat 1))) fun v256 =>
 J101 v256 h97) (J101 (NV.tuple []) h97)) fun J98 => gK v77 true (
 bK (lenSl v93) fun v257 =>
 J98 v257 h94) (J98 (NV.tuple []) h94)) fun J95 => gK v77 true (
 bK (ldO 1 false h91 v90) fun v258 =>
 J95 v258 h91) (J95 (NV.tuple []) h91)) fun J92 => gK v77 true (
 bK (fAddr 2 v87) fun v259 =>
 J92 v259 h88) (J92 (NV.tuple []) h88)) fun J89 => gK v77 true (
 bK (ixS 3 v81 v84) fun v260 =>
 J89 v260 h85) (J89 (NV.tuple []) h85)) fun J86 => gK v77 true (
 J86 v25 h82) (J86 (NV.tuple []) h82)) fun J83 => gK v77 true (
 bK (ldO 1 false h79 v78) fun v261 =>
 J83 v261 h79) (J83 (NV.tuple []) h79)) fun J80 => gK v77 true (
 bK (fAddr 2 v35) fun v262 =>
 J80 v262 h75) (J80 (NV.tuple []) h75)) fun J76 => gK v64 true (
 bK (eqI v71 (NV.int .i64 (.ofNat 1))) fun v263 =>
 J76 v263 h72) (J76 (NV.tuple []) h72)) fun J73 => gK v64 true (
 bK (lenSl v68) fun v264 =>
 J73 v264 h69) (J73 (NV.tuple []) h69)) fun J70 => gK v64 true (
 bK (ldO 1 false h66 v65) fun v265 =>
 J70 v265 h66) (J70 (NV.tuple []) h66)) fun J67 => gK v64 true (
 bK (fAddr 0 v35) fun v266 =>
 J67 v266 h62) (J67 (NV.tuple []) h62)) fun J63 => gK v39 true (
 bK (eqI v46 v58) fun v267 =>
 J63 v267 h59) (J63 (NV.tuple []) h59)) fun J60 => gK v39 true (
 bK (addI v55 (NV.int .i64 (.ofNat 2))) fun v268 =>
 J60 v268 h56) (J60 (NV.tuple []) h56)) fun J57 => gK v39 true (
 bK (addI v49 v52) fun v269 =>
 J57 v269 h53) (J57 (NV.tuple []) h53)) fun J54 => gK v39 true (
 J54 v26 h50) (J54 (NV.tuple []) h50)) fun J51 => gK v39 true (
 J51 v25 h47) (J51 (NV.tuple []) h47)) fun J48 => gK v39 true (
 bK (lenSl v43) fun v270 =>
 J48 v270 h44) (J48 (NV.tuple []) h44)) fun J45 => gK v39 true (
 bK (ldO 1 false h41 v40) fun v271 =>
 J45 v271 h41) (J45 (NV.tuple []) h41)) fun J42 => gK v39 true (
 bK (fAddr 2 v35) fun v272 =>
 J42 v272 h38) (J42 (NV.tuple []) h38)) fun J29 =>
 loopC N 4 (fun L278 v273 v274 v275 v276 h277 =>
 bK (ltI v276 v274) fun v279 =>
 condK v279 (
 bK (binO .add v275 (NV.str 16 42749015428088939236403372189734495784)) fun v280 =>
 bK (addI v276 (NV.int .i64 (.ofNat 1))) fun v281 =>
 L278 v273 v274 v280 v281 h277) (
 J29 v273 v274 v275 h277)) v12 v13 v24 (NV.int .i64 (.ofNat 0)) h19) fun J17 =>
 loopC N 5 (fun L288 v282 v283 v284 v285 v286 h287 =>
 bK (ltI v286 v282) fun v289 =>
 condK v289 (
 bK (binO .add v285 (NV.str 7 9052706286429736)) fun v290 =>
 bK (addI v286 (NV.int .i64 (.ofNat 1))) fun v291 =>
 L288 v282 v283 v284 v290 v291 h287) (
 J17 v282 v283 v284 v285 h287)) v9 v10 v11 (NV.str 0 0) (NV.int .i64 (.ofNat 0)) h7))
theorem e5 : ikB Tryz.prog 6 Tryz.f5 = S5 := by kernel_rfl
theorem k5 (w0 : World) : SOK cW w0 5 S5 := okW Tryz.func5 (by kernel_rfl) e5
noncomputable def S6 (call : CallF) (N : Nat) (l : List NV) (h : H) : R :=
 un l (
 mK (calM call 7 [(NV.str 70 606793966379083203959381662091343417049227162684020850220668332667165733043500671678097274405736801867215279572683246373821414288466255782083191013664570777020719785512)] h) fun v0 h1 =>
 bK (extO 0 v0) fun v2 =>
 bK (extO 1 v0) fun v3 =>
 mK (alM (NB.cells [NV.nslice, NV.nslice, NV.nslice, NV.nslice, NV.nslice, NV.nslice, NV.nslice, (NV.int .i64 (.ofNat 0)), NV.nslice, NV.nslice, (NV.bool false)]) h1) fun v4 h5 =>
 mK (stM 11 v4 v2 h5) fun v6 h7 =>
 mK (calM call 7 [(NV.str 19 923228299521577868225256403199970734897456680)] h7) fun v8 h9 =>
 bK (extO 0 v8) fun v10 =>
 bK (extO 1 v8) fun v11 =>
 mK (alM (NB.cells [NV.nslice, NV.nslice, NV.nslice, NV.nslice, NV.nslice, NV.nslice, NV.nslice, (NV.int .i64 (.ofNat 0)), NV.nslice, NV.nslice, (NV.bool false)]) h9) fun v12 h13 =>
 mK (stM 11 v12 v10 h13) fun v14 h15 =>
 mK (calM call 7 [(NV.str 1 40)] h15) fun v16 h17 =>
 bK (extO 0 v16) fun v18 =>
 bK (extO 1 v16) fun v19 =>
 mK (alM (NB.cells [NV.nslice, NV.nslice, NV.nslice, NV.nslice, NV.nslice, NV.nslice, NV.nslice, (NV.int .i64 (.ofNat 0)), NV.nslice, NV.nslice, (NV.bool false)]) h17) fun v20 h21 =>
 mK (stM 11 v20 v18 h21) fun v22 h23 =>
 bK (eqI v3 (NV.int .i64 (.ofNat 0))) fun v24 =>
 jK (fun v25 h26 =>
 jK (fun v28 h29 =>
 jK (fun v31 h32 =>
 jK (fun v34 h35 =>
 bK (pickO v24 v34 (NV.bool false)) fun v37 =>
 jK (fun v38 h39 =>
 jK (fun v41 h42 =>
 jK (fun v44 h45 =>
 jK (fun v47 h48 =>
 bK (pickO v37 v47 (NV.bool false)) fun v50 =>
 jK (fun v51 h52 =>
 jK (fun v54 h55 =>
 jK (fun v57 h58 =>
 jK (fun v60 h61 =>
 jK (fun v63 h64 =>
 jK (fun v66 h67 =>
 jK (fun v69 h70 =>
 bK (pickO v50 v69 (NV.bool false)) fun v72 =>
 jK (fun v73 h74 =>
 jK (fun v76 h77 =>
 jK (fun v79 h80 =>
 jK (fun v82 h83 =>
 jK (fun v85 h86 =>
 jK (fun v88 h89 =>
 jK (fun v91 h92 =>
 jK (fun v94 h95 =>
 jK (fun v97 h98 =>
 bK (pickO v72 v97 (NV.bool false)) fun v100 =>
 jK (fun v101 h102 =>
 jK (fun v104 h105 =>
 jK (fun v107 h108 =>
 jK (fun v110 h111 =>
 bK (pickO v100 v110 (NV.bool false)) fun v113 =>
 jK (fun v114 h115 =>
 jK (fun v117 h118 =>
 bK (pickO v113 v117 (NV.bool false)) fun v120 =>
 jK (fun v121 h122 =>
 jK (fun v124 h125 =>
 bK (pickO v120 v124 (NV.bool false)) fun v127 =>
 retC v127 h125) fun J126 => gK v120 true (
 bK (eqI v121 (NV.int .i64 (.ofNat 71))) fun v128 =>
 J126 v128 h122) (J126 (NV.tuple []) h122)) fun J123 => gK v120 true (
 J123 v19 h118) (J123 (NV.tuple []) h118)) fun J119 => gK v113 true (
 bK (eqI v114 (NV.int .i64 (.ofNat 71))) fun v129 =>
 J119 v129 h115) (J119 (NV.tuple []) h115)) fun J116 => gK v113 true (
 J116 v11 h111) (J116 (NV.tuple []) h111)) fun J112 => gK v100 true (
 bK (eqI v107 (NV.int .i64 (.ofNat 1))) fun v130 =>
 J112 v130 h108) (J112 (NV.tuple []) h108)) fun J109 => gK v100 true (
 bK (lenSl v104) fun v131 =>
 J109 v131 h105) (J109 (NV.tuple []) h105)) fun J106 => gK v100 true (
 bK (ldO 1 false h102 v101) fun v132 =>
 J106 v132 h102) (J106 (NV.tuple []) h102)) fun J103 => gK v100 true (
 bK (fAddr 6 v4) fun v133 =>
 J103 v133 h98) (J103 (NV.tuple []) h98)) fun J99 => gK v72 true (
 bK (eqI v94 (NV.int .i64 (.ofNat 106))) fun v134 =>
 J99 v134 h95) (J99 (NV.tuple []) h95)) fun J96 => gK v72 true (
 bK (ldO 1 false h92 v91) fun v135 =>
 J96 v135 h92) (J96 (NV.tuple []) h92)) fun J93 => gK v72 true (
 bK (fAddr 0 v88) fun v136 =>
 J93 v136 h89) (J93 (NV.tuple []) h89)) fun J90 => gK v72 true (
 bK (ixS 9 v85 (NV.int .i64 (.ofNat 2))) fun v137 =>
 J90 v137 h86) (J90 (NV.tuple []) h86)) fun J87 => gK v72 true (
 bK (ldO 1 false h83 v82) fun v138 =>
 J87 v138 h83) (J87 (NV.tuple []) h83)) fun J84 => gK v72 true (
 bK (fAddr 2 v79) fun v139 =>
 J84 v139 h80) (J84 (NV.tuple []) h80)) fun J81 => gK v72 true (
 bK (ixS 3 v76 (NV.int .i64 (.ofNat 0))) fun v140 =>
 J81 v140 h77) (J81 (NV.tuple []) h77)) fun J78 => gK v72 true (
 bK (ldO 1 false h74 v73) fun v141 =>
 J78 v141 h74) (J78 (NV.tuple []) h74)) fun J75 => gK v72 true (
 bK (fAddr 2 v4) fun v142 =>
 J75 v142 h70) (J75 (NV.tuple []) h70)) fun J71 => gK v50 true (
 bK (eqI v66 (NV.int .i64 (.ofNat 3))) fun v143 =>
 J71 v143 h67) (J71 (NV.tuple []) h67)) fun J68 => gK v50 true (
 bK (lenSl v63) fun v144 =>
 J68 v144 h64) (J68 (NV.tuple []) h64)) fun J65 => gK v50 true (
 bK (ldO 1 false h61 v60) fun v145 =>
 J65 v145 h61) (J65 (NV.tuple []) h61)) fun J62 => gK v50 true (
 bK (fAddr 2 v57) fun v146 =>
 J62 v146 h58) (J62 (NV.tuple []) h58)) fun J59 => gK v50 true (
 bK (ixS 3 v54 (NV.int .i64 (.ofNat 0))) fun v147 =>
 J59 v147 h55) (J59 (NV.tuple []) h55)) fun J56 => gK v50 true (
 bK (ldO 1 false h52 v51) fun v148 =>
 J56 v148 h52) (J56 (NV.tuple []) h52)) fun J53 => gK v50 true (
 bK (fAddr 2 v4) fun v149 =>
 J53 v149 h48) (J53 (NV.tuple []) h48)) fun J49 => gK v37 true (
 bK (eqI v44 (NV.int .i64 (.ofNat 1))) fun v150 =>
 J49 v150 h45) (J49 (NV.tuple []) h45)) fun J46 => gK v37 true (
 bK (lenSl v41) fun v151 =>
 J46 v151 h42) (J46 (NV.tuple []) h42)) fun J43 => gK v37 true (
 bK (ldO 1 false h39 v38) fun v152 =>
 J43 v152 h39) (J43 (NV.tuple []) h39)) fun J40 => gK v37 true (
 bK (fAddr 2 v4) fun v153 =>
 J40 v153 h35) (J40 (NV.tuple []) h35)) fun J36 => gK v24 true (
 bK (eqI v31 (NV.int .i64 (.ofNat 1))) fun v154 =>
 J36 v154 h32) (J36 (NV.tuple []) h32)) fun J33 => gK v24 true (
 bK (lenSl v28) fun v155 =>
 J33 v155 h29) (J33 (NV.tuple []) h29)) fun J30 => gK v24 true (
 bK (ldO 1 false h26 v25) fun v156 =>
 J30 v156 h26) (J30 (NV.tuple []) h26)) fun J27 => gK v24 true (
 bK (fAddr 0 v4) fun v157 =>
 J27 v157 h23) (J27 (NV.tuple []) h23))
theorem e6 : ikB Tryz.prog 6 Tryz.f6 = S6 := by kernel_rfl
theorem k6 (w0 : World) : SOK cW w0 6 S6 := okW Tryz.func6 (by kernel_rfl) e6
noncomputable def S7 (call : CallF) (N : Nat) (l : List NV) (h : H) : R :=
 uc l fun v0 l1 => un l1 (
 mK (alM (NB.cells [NV.nslice, NV.nslice, NV.nslice, NV.nslice, NV.nslice, NV.nslice, NV.nslice, (NV.int .i64 (.ofNat 0)), NV.nslice, NV.nslice, (NV.bool false)]) h) fun v2 h3 =>
 mK (calM call 11 [v0] h3) fun v4 h5 =>
 bK (extO 0 v4) fun v6 =>
 bK (extO 1 v4) fun v7 =>
 bK (neI v7 (NV.int .i64 (.ofNat 0))) fun v8 =>
 condK v8 (
 bK (bldO [] [NV.nslice, NV.nslice, NV.nslice, NV.nslice, NV.nslice, NV.nslice, NV.nslice, (NV.int .i64 (.ofNat 0)), NV.nslice, NV.nslice, (NV.bool false)] []) fun v9 =>
 mK (stM 11 v2 v9 h5) fun v10 h11 =>
 bK (ldO 11 true h11 v2) fun v12 =>
 retC (NV.tuple [v12, v7]) h11) (
 bK (bldO [] [NV.nslice, NV.nslice, NV.nslice, NV.nslice, NV.nslice, NV.nslice, NV.nslice, (NV.int .i64 (.ofNat 0)), NV.nslice, NV.nslice, (NV.bool false), NV.nmap, NV.nmap, NV.nmap, NV.nmap, NV.nmap, NV.nmap, NV.nmap, (NV.int .i64 (.ofNat 0)), (NV.int .i64 (.ofNat 0)), (NV.int .i64 (.ofNat 0)), (NV.int .i64 (.ofNat 0)), (NV.int .i64 (.ofNat 0)), (NV.int .i64 (.ofNat 0)), (NV.int .i64 (.ofNat 0)), (NV.bool false), (NV.bool false)] []) fun v13 =>
 mK (boxM false v13 h5) fun v14 h15 =>
 bK (bldO [(0, 1), (1, 1)] [NV.nilptr, NV.nslice] [v14, v6]) fun v16 =>
 mK (boxM false v16 h15) fun v17 h18 =>
 mK (calM call 12 [v17, (NV.str 6 111516500389741)] h18) fun v19 h20 =>
 bK (extO 0 v19) fun v21 =>
 bK (extO 1 v19) fun v22 =>
 jK (fun v23 h24 =>
 jK (fun v26 h27 =>
 jK (fun v29 h30 =>
 bK (pickO v22 v29 (NV.bool false)) fun v32 =>
 joinC 2 (fun v33 v34 h35 =>
 mK (calM call 14 [v34] h35) fun v37 h38 =>
 bK (extO 0 v37) fun v39 =>
 bK (extO 1 v37) fun v40 =>
 mK (stM 11 v33 v39 h38) fun v41 h42 =>
 bK (ldO 11 true h42 v33) fun v43 =>
 retC (NV.tuple [v43, v40]) h42) fun J36 =>
 condK v32 (
 mK (calM call 13 [v21] h30) fun v44 h45 =>
 bK (nilO v21) fun v46 =>
 bK (fAddr 1 v46) fun v47 =>
 bK (ldO 1 false h45 v47) fun v48 =>
 J36 v2 v48 h45) (
 J36 v2 v6 h30)) fun J31 => gK v22 true (
 bK (eqI v26 (NV.int .i64 (.ofNat 1))) fun v49 =>
 J31 v49 h27) (J31 (NV.tuple []) h27)) fun J28 => gK v22 true (
 bK (lenSl v23) fun v50 =>
 J28 v50 h24) (J28 (NV.tuple []) h24)) fun J25 => gK v22 true (
 J25 v6 h20) (J25 (NV.tuple []) h20)))
theorem e7 : ikB Tryz.prog 6 Tryz.f7 = S7 := by kernel_rfl
theorem k7 (w0 : World) : SOK cW w0 7 S7 := okW Tryz.func7 (by kernel_rfl) e7
noncomputable def S11 (call : CallF) (N : Nat) (l : List NV) (h : H) : R :=
 uc l fun v0 l1 => un l1 (
 mK (calM call 28 [v0] h) fun v2 h3 =>
 bK (extO 0 v2) fun v4 =>
 bK (extO 1 v2) fun v5 =>
 bK (neI v5 (NV.int .i64 (.ofNat 0))) fun v6 =>
 condK v6 (
 retC (NV.tuple [NV.nslice, v5]) h3) (
 mK (bslM 1 false [(0, 1)] [NV.nslice] [NV.nslice] h3) fun v7 h8 =>
 bK (lenSl v4) fun v9 =>
 joinC 1 (fun v10 h11 =>
 bK (lenSl v10) fun v13 =>
 bK (gtI v13 (NV.int .i64 (.ofNat 1))) fun v14 =>
 condK v14 (
 retC (NV.tuple [NV.nslice, (NV.int .i64 (.ofNat 71))]) h11) (
 bK (ixS 1 v10 (NV.int .i64 (.ofNat 0))) fun v15 =>
 bK (ldO 1 false h11 v15) fun v16 =>
 retC (NV.tuple [v16, (NV.int .i64 (.ofNat 0))]) h11)) fun J12 =>
 loopC N 4 (fun L22 v17 v18 v19 v20 h21 =>
 bK (ltI v20 v19) fun v23 =>
 condK v23 (
 bK (ixS 3 v18 v20) fun v24 =>
 bK (ldO 3 true h21 v24) fun v25 =>
 mK (alM (NB.cells [(NV.int .i64 (.ofNat 0)), (NV.str 0 0), (NV.int .i64 (.ofNat 0))]) h21) fun v26 h27 =>
 mK (stM 3 v26 v25 h27) fun v28 h29 =>
 bK (lenSl v17) fun v30 =>
 bK (subI v30 (NV.int .i64 (.ofNat 1))) fun v31 =>
 bK (fAddr 0 v26) fun v32 =>
 bK (ldO 1 false h29 v32) fun v33 =>
 bK (eqI v33 (NV.int .i64 (.ofNat 0))) fun v34 =>
 joinC 4 (fun v35 v36 v37 v38 h39 =>
 bK (addI v38 (NV.int .i64 (.ofNat 1))) fun v41 =>
 L22 v35 v36 v37 v41 h39) fun J40 =>
 condK v34 (
 bK (eqI v31 (NV.int .i64 (.ofNat 1000))) fun v42 =>
 condK v42 (
 retC (NV.tuple [NV.nslice, (NV.int .i64 (.ofNat 72))]) h29) (
 mK (bslM 1 false [(0, 1)] [NV.nslice] [NV.nslice] h29) fun v43 h44 =>
 mK (appM Tryz.prog 53 v17 v43 h44) fun v45 h46 =>
 J40 v45 v18 v19 v20 h46)) (
 bK (eqI v33 (NV.int .i64 (.ofNat 1))) fun v47 =>
 condK v47 (
 bK (eqI v31 (NV.int .i64 (.ofNat 0))) fun v48 =>
 condK v48 (
 retC (NV.tuple [NV.nslice, (NV.int .i64 (.ofNat 71))]) h29) (
 bK (ixS 1 v17 v31) fun v49 =>
 bK (ldO 1 false h29 v49) fun v50 =>
 bK (bldO [(0, 1), (2, 1)] [(NV.int .i64 (.ofNat 0)), (NV.str 0 0), NV.nslice] [(NV.int .i64 (.ofNat 4)), v50]) fun v51 =>
 mK (alM (NB.cells [(NV.int .i64 (.ofNat 0)), (NV.str 0 0), NV.nslice]) h29) fun v52 h53 =>
 mK (stM 3 v52 v51 h53) fun v54 h55 =>
 bK (slcO Tryz.prog 93 h55 v17 none (some v31) none) fun v56 =>
 anyK NV.anyBool (
 flipC 4 h55 (fun h57 =>
 bK (subI v31 (NV.int .i64 (.ofNat 1))) fun v60 =>
 bK (subI v31 (NV.int .i64 (.ofNat 1))) fun v61 =>
 bK (ixS 1 v56 v61) fun v62 =>
 bK (ldO 1 false h57 (chkV h57 v62)) fun v63 =>
 bK (ldO 3 true h57 (chkV h57 v52)) fun v64 =>
 bK (lenSl v63) fun v65 =>
 mK (bslM 1 false [(0, 3)] [(NV.int .i64 (.ofNat 0)), (NV.str 0 0), NV.nslice] [(NV.agg [(NV.int .i64 (.ofNat 0)), (NV.str 0 0), NV.nslice])] h57) fun v66 h67 =>
 mK (appM Tryz.prog 97 (chkV h67 v63) (chkV h67 v66) h67) fun v68 h69 =>
 nextK h67 h69 (
 bK (ixS 1 v56 v60) fun v70 =>
 mK (stM 1 (chkV h69 v70) (chkV h69 v68) h69) fun v71 h72 =>
 nextK h69 h72 (
 bK (ixS 3 v68 v65) fun v73 =>
 mK (stM 3 v73 v64 h72) fun v74 h75 =>
 retC (NV.tuple [v56, v18, v19, v20]) h75))) (fun h58 =>
 bK (subI v31 (NV.int .i64 (.ofNat 1))) fun v76 =>
 bK (subI v31 (NV.int .i64 (.ofNat 1))) fun v77 =>
 bK (ixS 1 v56 v77) fun v78 =>
 bK (ldO 1 false h58 (chkV h58 v78)) fun v79 =>
 bK (ldO 3 true h58 (chkV h58 v52)) fun v80 =>
 mK (bslM 1 false [(0, 3)] [(NV.int .i64 (.ofNat 0)), (NV.str 0 0), NV.nslice] [(chkV h58 v80)] h58) fun v81 h82 =>
 mK (appM Tryz.prog 97 (chkV h82 v79) (chkV h82 v81) h82) fun v83 h84 =>
 nextK h82 h84 (
 bK (ixS 1 v56 v76) fun v85 =>
 mK (stM 1 (chkV h84 v85) (chkV h84 v83) h84) fun v86 h87 =>
 nextK h84 h87 (
 retC (NV.tuple [v56, v18, v19, v20]) h87))) (fun v88 v89 v90 v91 h59 =>
 J40 v88 v89 v90 v91 h59)))) (
 bK (ixS 1 v17 v31) fun v92 =>
 bK (ldO 1 false h29 (chkV h29 v92)) fun v93 =>
 bK (fAddr 0 v26) fun v94 =>
 bK (ldO 1 false h29 (chkV h29 v94)) fun v95 =>
 bK (fAddr 1 v26) fun v96 =>
 bK (ldO 1 false h29 (chkV h29 v96)) fun v97 =>
 bK (bldO [(0, 1), (1, 1)] [(NV.int .i64 (.ofNat 0)), (NV.str 0 0), NV.nslice] [v95, v97]) fun v98 =>
 bK (lenSl v93) fun v99 =>
 mK (bslM 1 false [(0, 3)] [(NV.int .i64 (.ofNat 0)), (NV.str 0 0), NV.nslice] [(NV.agg [(NV.int .i64 (.ofNat 0)), (NV.str 0 0), NV.nslice])] h29) fun v100 h101 =>
 mK (appM Tryz.prog 97 (chkV h101 v93) (chkV h101 v100) h101) fun v102 h103 =>
 nextK h101 h103 (
 bK (ixS 3 v102 v99) fun v104 =>
 bK (ixS 1 v17 v31) fun v105 =>
 tlK (stT 3 (chkV h103 v104) (chkV h103 v98) h103) fun p106 b107 =>
 tlK (stT 1 (chkV h103 v105) (chkV h103 v102) h103) fun p108 b109 =>
 hasK p108 [] (
 hasK p106 [(p108, some b109)] (
 J40 v17 v18 v19 v20 (updsH [(p106, some b107), (p108, some b109)] h103))))))) (
 J12 v17 h21)) v7 v4 v9 (NV.int .i64 (.ofNat 0)) h8))
theorem e11 : ikB Tryz.prog 6 Tryz.f11 = S11 := by kernel_rfl
theorem k11 (w0 : World) : SOK cW w0 11 S11 := okW Tryz.func11 (by kernel_rfl) e11
noncomputable def S12 (call : CallF) (N : Nat) (l : List NV) (h : H) : R :=
 uc l fun v0 l1 => uc l1 fun v2 l3 => un l3 (
 bK (binO .eql v2 (NV.str 0 0)) fun v4 =>
 jK (fun v5 h6 =>
 jK (fun v8 h9 =>
 jK (fun v11 h12 =>
 jK (fun v14 h15 =>
 bK (pickO v4 (NV.bool true) v14) fun v17 =>
 condK v17 (
 bK (nilO v0) fun v18 =>
 bK (fAddr 0 v18) fun v19 =>
 bK (ldO 1 false h15 v19) fun v20 =>
 bK (bldO [(0, 1)] [NV.nilptr, NV.nslice] [v20]) fun v21 =>
 mK (boxM false v21 h15) fun v22 h23 =>
 retC (NV.tuple [v22, (NV.bool false)]) h23) (
 bK (nilO v0) fun v24 =>
 bK (fAddr 0 v24) fun v25 =>
 bK (ldO 1 false h15 (chkV h15 v25)) fun v26 =>
 bK (nilO v0) fun v27 =>
 bK (fAddr 1 v27) fun v28 =>
 bK (ldO 1 false h15 (chkV h15 v28)) fun v29 =>
 bK (ixS 3 v29 (NV.int .i64 (.ofNat 0))) fun v30 =>
 bK (fAddr 2 v30) fun v31 =>
 bK (ldO 1 false h15 (chkV h15 v31)) fun v32 =>
 bK (slcO Tryz.prog 53 h15 (chkV h15 v32) (some (NV.int .i64 (.ofNat 1))) none none) fun v33 =>
 bK (bldO [(0, 1), (1, 1)] [NV.nilptr, NV.nslice] [v26, v33]) fun v34 =>
 mK (boxM false (chkV h15 v34) h15) fun v35 h36 =>
 bK (nilO v0) fun v37 =>
 bK (fAddr 1 v37) fun v38 =>
 bK (ldO 1 false h36 v38) fun v39 =>
 bK (slcO Tryz.prog 53 h36 v39 (some (NV.int .i64 (.ofNat 1))) none none) fun v40 =>
 bK (nilO v0) fun v41 =>
 bK (fAddr 1 v41) fun v42 =>
 mK (stM 1 v42 v40 h36) fun v43 h44 =>
 retC (NV.tuple [v35, (NV.bool true)]) h44)) fun J16 => gK v4 false (
 bK (binO .neq v8 v11) fun v45 =>
 J16 v45 h12) (J16 (NV.tuple []) h12)) fun J13 => gK v4 false (
 J13 v2 h9) (J13 (NV.tuple []) h9)) fun J10 => gK v4 false (
 mK (calM call 29 [v5] h6) fun v46 h47 =>
 J10 v46 h47) (J10 (NV.tuple []) h6)) fun J7 => gK v4 false (
 J7 v0 h) (J7 (NV.tuple []) h))
theorem e12 : ikB Tryz.prog 6 Tryz.f12 = S12 := by kernel_rfl
theorem k12 (w0 : World) : SOK cW w0 12 S12 := okW Tryz.func12 (by kernel_rfl) e12
noncomputable def S13 (call : CallF) (N : Nat) (l : List NV) (h : H) : R :=
 uc l fun v0 l1 => un l1 (
 mK (calM call 30 [v0] h) fun v2 h3 =>
 bK (lenStr v2) fun v4 =>
 bK (gtI v4 (NV.int .i64 (.ofNat 1))) fun v5 =>
 jK (fun v6 h7 =>
 jK (fun v9 h10 =>
 jK (fun v12 h13 =>
 bK (pickO v5 v12 (NV.bool false)) fun v15 =>
 condK v15 (
 bK (nilO v0) fun v16 =>
 bK (fAddr 1 v16) fun v17 =>
 bK (ldO 1 false h13 v17) fun v18 =>
 bK (slcO Tryz.prog 53 h13 v18 (some (NV.int .i64 (.ofNat 1))) none none) fun v19 =>
 bK (nilO v0) fun v20 =>
 bK (fAddr 1 v20) fun v21 =>
 mK (stM 1 v21 v19 h13) fun v22 h23 =>
 retC v2 h23) (
 retC (NV.str 0 0) h13)) fun J14 => gK v5 true (
 bK (eqI v9 (NV.int .u8 (.ofNat 36))) fun v24 =>
 J14 v24 h10) (J14 (NV.tuple []) h10)) fun J11 => gK v5 true (
 bK (ixStr v6 (NV.int .i64 (.ofNat 0))) fun v25 =>
 J11 v25 h7) (J11 (NV.tuple []) h7)) fun J8 => gK v5 true (
 J8 v2 h3) (J8 (NV.tuple []) h3))
theorem e13 : ikB Tryz.prog 6 Tryz.f13 = S13 := by kernel_rfl
theorem k13 (w0 : World) : SOK cW w0 13 S13 := okW Tryz.func13 (by kernel_rfl) e13
noncomputable def S14 (call : CallF) (N : Nat) (l : List NV) (h : H) : R :=
 uc l fun v0 l1 => un l1 (
 mK (alM (NB.cells [NV.nslice, NV.nslice, NV.nslice, NV.nslice, NV.nslice, NV.nslice, NV.nslice, (NV.int .i64 (.ofNat 0)), NV.nslice, NV.nslice, (NV.bool false)]) h) fun v2 h3 =>
 bK (bldO [] [NV.nslice, NV.nslice, NV.nslice, NV.nslice, NV.nslice, NV.nslice, NV.nslice, (NV.int .i64 (.ofNat 0)), NV.nslice, NV.nslice, (NV.bool false), NV.nmap, NV.nmap, NV.nmap, NV.nmap, NV.nmap, NV.nmap, NV.nmap, (NV.int .i64 (.ofNat 0)), (NV.int .i64 (.ofNat 0)), (NV.int .i64 (.ofNat 0)), (NV.int .i64 (.ofNat 0)), (NV.int .i64 (.ofNat 0)), (NV.int .i64 (.ofNat 0)), (NV.int .i64 (.ofNat 0)), (NV.bool false), (NV.bool false)] []) fun v4 =>
 mK (boxM false v4 h3) fun v5 h6 =>
 joinC 3 (fun v7 v8 v9 h10 =>
 bK (bldO [(0, 1), (1, 1)] [NV.nilptr, NV.nslice] [v9, v7]) fun v12 =>
 mK (boxM false v12 h10) fun v13 h14 =>
 joinC 3 (fun v15 v16 v17 h18 =>
 bK (bldO [(0, 1), (1, 1)] [NV.nilptr, NV.nslice] [v17, v15]) fun v20 =>
 mK (boxM false v20 h18) fun v21 h22 =>
 joinC 2 (fun v23 v24 h25 =>
 bK (nilO v24) fun v27 =>
 bK (fAddr 0 v27) fun v28 =>
 bK (ldO 11 true h25 v28) fun v29 =>
 mK (alM (NB.cells [NV.nslice, NV.nslice, NV.nslice, NV.nslice, NV.nslice, NV.nslice, NV.nslice, (NV.int .i64 (.ofNat 0)), NV.nslice, NV.nslice, (NV.bool false)]) h25) fun v30 h31 =>
 mK (stM 11 v30 v29 h31) fun v32 h33 =>
 bK (nilO v24) fun v34 =>
 bK (fAddr 26 v34) fun v35 =>
 bK (ldO 1 false h33 v35) fun v36 =>
 condK v36 (
 bK (bldO [] [NV.nslice, NV.nslice, NV.nslice, NV.nslice, NV.nslice, NV.nslice, NV.nslice, (NV.int .i64 (.ofNat 0)), NV.nslice, NV.nslice, (NV.bool false)] []) fun v37 =>
 mK (stM 11 v23 v37 h33) fun v38 h39 =>
 bK (ldO 11 true h39 v23) fun v40 =>
 retC (NV.tuple [v40, (NV.int .i64 (.ofNat 71))]) h39) (
 bK (ldO 11 true h33 v30) fun v41 =>
 mK (calM call 35 [v41] h33) fun v42 h43 =>
 condK v42 (
 bK (bldO [] [NV.nslice, NV.nslice, NV.nslice, NV.nslice, NV.nslice, NV.nslice, NV.nslice, (NV.int .i64 (.ofNat 0)), NV.nslice, NV.nslice, (NV.bool false)] []) fun v44 =>
 mK (stM 11 v23 v44 h43) fun v45 h46 =>
 bK (ldO 11 true h46 v23) fun v47 =>
 retC (NV.tuple [v47, (NV.int .i64 (.ofNat 72))]) h46) (
 bK (ldO 11 true h43 v30) fun v48 =>
 mK (alM (NB.cells [NV.nslice, NV.nslice, NV.nslice, NV.nslice, NV.nslice, NV.nslice, NV.nslice, (NV.int .i64 (.ofNat 0)), NV.nslice, NV.nslice, (NV.bool false)]) h43) fun v49 h50 =>
 mK (stM 11 v49 v48 h50) fun v51 h52 =>
 bK (fAddr 10 v49) fun v53 =>
 mK (stM 1 v53 (NV.bool false) h52) fun v54 h55 =>
 bK (fAddr 10 v30) fun v56 =>
 mK (stM 1 v56 (NV.bool true) h55) fun v57 h58 =>
 bK (ldO 11 true h58 v30) fun v59 =>
 mK (calM call 36 [v59] h58) fun v60 h61 =>
 bK (notO v60) fun v62 =>
 condK v62 (
 bK (bldO [] [NV.nslice, NV.nslice, NV.nslice, NV.nslice, NV.nslice, NV.nslice, NV.nslice, (NV.int .i64 (.ofNat 0)), NV.nslice, NV.nslice, (NV.bool false)] []) fun v63 =>
 mK (stM 11 v23 v63 h61) fun v64 h65 =>
 bK (ldO 11 true h65 v23) fun v66 =>
 retC (NV.tuple [v66, (NV.int .i64 (.ofNat 71))]) h65) (
 bK (fAddr 9 v30) fun v67 =>
 bK (ldO 1 false h61 v67) fun v68 =>
 bK (lenSl v68) fun v69 =>
 bK (gtI v69 (NV.int .i64 (.ofNat 0))) fun v70 =>
 jK (fun v71 h72 =>
 jK (fun v74 h75 =>
 jK (fun v77 h78 =>
 bK (pickO v70 (NV.bool true) v77) fun v80 =>
 bK (fAddr 10 v30) fun v81 =>
 mK (stM 1 v81 v80 h78) fun v82 h83 =>
 bK (ldO 11 true h83 v30) fun v84 =>
 mK (stM 11 v23 v84 h83) fun v85 h86 =>
 bK (ldO 11 true h86 v23) fun v87 =>
 retC (NV.tuple [v87, (NV.int .i64 (.ofNat 0))]) h86) fun J79 => gK v70 false (
 bK (notO v74) fun v88 =>
 J79 v88 h75) (J79 (NV.tuple []) h75)) fun J76 => gK v70 false (
 mK (calM call 36 [v71] h72) fun v89 h90 =>
 J76 v89 h90) (J76 (NV.tuple []) h72)) fun J73 => gK v70 false (
 bK (ldO 11 true h61 v49) fun v91 =>
 J73 v91 h61) (J73 (NV.tuple []) h61))))) fun J26 =>
 loopC N 3 (fun L96 v92 v93 v94 h95 =>
 bK (nilO v94) fun v97 =>
 bK (fAddr 1 v97) fun v98 =>
 bK (ldO 1 false h95 v98) fun v99 =>
 bK (lenSl v99) fun v100 =>
 bK (gtI v100 (NV.int .i64 (.ofNat 0))) fun v101 =>
 jK (fun v102 h103 =>
 jK (fun v105 h106 =>
 jK (fun v108 h109 =>
 jK (fun v111 h112 =>
 jK (fun v114 h115 =>
 bK (pickO v101 v114 (NV.bool false)) fun v117 =>
 condK v117 (
 mK (calM call 29 [v94] h115) fun v118 h119 =>
 mK (calM call 12 [v94, v118] h119) fun v120 h121 =>
 bK (extO 0 v120) fun v122 =>
 bK (extO 1 v120) fun v123 =>
 mK (calM call 33 [v122, v118] h121) fun v124 h125 =>
 mK (calM call 34 [v122] h125) fun v126 h127 =>
 L96 v92 v93 v94 h127) (
 J26 v92 v93 h115)) fun J116 => gK v101 true (
 bK (notO v111) fun v128 =>
 J116 v128 h112) (J116 (NV.tuple []) h112)) fun J113 => gK v101 true (
 bK (ldO 1 false h109 v108) fun v129 =>
 J113 v129 h109) (J113 (NV.tuple []) h109)) fun J110 => gK v101 true (
 bK (fAddr 26 v105) fun v130 =>
 J110 v130 h106) (J110 (NV.tuple []) h106)) fun J107 => gK v101 true (
 bK (nilO v102) fun v131 =>
 J107 v131 h103) (J107 (NV.tuple []) h103)) fun J104 => gK v101 true (
 J104 v93 h95) (J104 (NV.tuple []) h95)) v16 v17 v21 h22) fun J19 =>
 loopC N 4 (fun L137 v132 v133 v134 v135 h136 =>
 bK (nilO v135) fun v138 =>
 bK (fAddr 1 v138) fun v139 =>
 bK (ldO 1 false h136 v139) fun v140 =>
 bK (lenSl v140) fun v141 =>
 bK (gtI v141 (NV.int .i64 (.ofNat 0))) fun v142 =>
 jK (fun v143 h144 =>
 jK (fun v146 h147 =>
 jK (fun v149 h150 =>
 jK (fun v152 h153 =>
 jK (fun v155 h156 =>
 bK (pickO v142 v155 (NV.bool false)) fun v158 =>
 condK v158 (
 mK (calM call 29 [v135] h156) fun v159 h160 =>
 mK (calM call 12 [v135, v159] h160) fun v161 h162 =>
 bK (extO 0 v161) fun v163 =>
 bK (extO 1 v161) fun v164 =>
 bK (binO .neq v159 (NV.str 0 0)) fun v165 =>
 mK (calM call 31 [v134, v165] h162) fun v166 h167 =>
 mK (calM call 32 [v163, v159] h167) fun v168 h169 =>
 L137 v132 v133 v134 v135 h169) (
 J19 v132 v133 v134 h156)) fun J157 => gK v142 true (
 bK (notO v152) fun v170 =>
 J157 v170 h153) (J157 (NV.tuple []) h153)) fun J154 => gK v142 true (
 bK (ldO 1 false h150 v149) fun v171 =>
 J154 v171 h150) (J154 (NV.tuple []) h150)) fun J151 => gK v142 true (
 bK (fAddr 26 v146) fun v172 =>
 J151 v172 h147) (J151 (NV.tuple []) h147)) fun J148 => gK v142 true (
 bK (nilO v143) fun v173 =>
 J148 v173 h144) (J148 (NV.tuple []) h144)) fun J145 => gK v142 true (
 J145 v134 h136) (J145 (NV.tuple []) h136)) v7 v8 v9 v13 h14) fun J11 =>
 loopC N 4 (fun L179 v174 v175 v176 v177 h178 =>
 bK (ltI v177 (NV.int .i64 (.ofNat 7))) fun v180 =>
 condK v180 (
 mK (mapM none h178) fun v181 h182 =>
 bK (nilO v176) fun v183 =>
 bK (fAddr 11 v183) fun v184 =>
 bK (ixA 7 1 v184 v177) fun v185 =>
 mK (stM 1 v185 v181 h182) fun v186 h187 =>
 bK (addI v177 (NV.int .i64 (.ofNat 1))) fun v188 =>
 L179 v174 v175 v176 v188 h187) (
 J11 v174 v175 v176 h178)) v0 v2 v5 (NV.int .i64 (.ofNat 0)) h6)
theorem e14 : ikB Tryz.prog 6 Tryz.f14 = S14 := by kernel_rfl
theorem k14 (w0 : World) : SOK cW w0 14 S14 := okW Tryz.func14 (by kernel_rfl) e14
noncomputable def S28 (call : CallF) (N : Nat) (l : List NV) (h : H) : R :=
 uc l fun v0 l1 => un l1 (
 bK (lenStr v0) fun v2 =>
 bK (gtI v2 (NV.int .i64 (.ofNat 1048576))) fun v3 =>
 condK v3 (
 retC (NV.tuple [NV.nslice, (NV.int .i64 (.ofNat 1))]) h) (
 mK (calM call 42 [v0] h) fun v4 h5 =>
 bK (notO v4) fun v6 =>
 condK v6 (
 retC (NV.tuple [NV.nslice, (NV.int .i64 (.ofNat 70))]) h5) (
 bK (bldO [(0, 1)] [(NV.str 0 0), (NV.int .i64 (.ofNat 0))] [v0]) fun v7 =>
 mK (boxM false v7 h5) fun v8 h9 =>
 loopC N 4 (fun L15 v10 v11 v12 v13 h14 =>
 mK (calM call 43 [v11] h14) fun v16 h17 =>
 bK (notO v16) fun v18 =>
 condK v18 (
 retC (NV.tuple [NV.nslice, (NV.int .i64 (.ofNat 70))]) h17) (
 bK (nilO v11) fun v19 =>
 bK (fAddr 1 v19) fun v20 =>
 bK (ldO 1 false h17 v20) fun v21 =>
 bK (lenStr v10) fun v22 =>
 bK (eqI v21 v22) fun v23 =>
 condK v23 (
 retC (NV.tuple [v12, (NV.int .i64 (.ofNat 0))]) h17) (
 mK (calM call 44 [v11] h17) fun v24 h25 =>
 bK (extO 0 v24) fun v26 =>
 bK (extO 1 v24) fun v27 =>
 mK (alM (NB.cells [(NV.int .i64 (.ofNat 0)), (NV.str 0 0), (NV.int .i64 (.ofNat 0))]) h25) fun v28 h29 =>
 mK (stM 3 v28 v26 h29) fun v30 h31 =>
 bK (fAddr 0 v28) fun v32 =>
 bK (ldO 1 false h31 v32) fun v33 =>
 bK (eqI v33 (NV.int .i64 (.ofNat 2))) fun v34 =>
 jK (fun v35 h36 =>
 jK (fun v38 h39 =>
 jK (fun v41 h42 =>
 bK (pickO v34 (NV.bool true) v41) fun v44 =>
 bK (notO v27) fun v45 =>
 jK (fun v46 h47 =>
 jK (fun v49 h50 =>
 jK (fun v52 h53 =>
 jK (fun v55 h56 =>
 jK (fun v58 h59 =>
 jK (fun v61 h62 =>
 jK (fun v64 h65 =>
 bK (pickO v45 (NV.bool true) v64) fun v67 =>
 condK v67 (
 retC (NV.tuple [NV.nslice, (NV.int .i64 (.ofNat 70))]) h65) (
 joinC 5 (fun v68 v69 v70 v71 v72 h73 =>
 bK (ldO 3 true h73 v72) fun v75 =>
 mK (bslM 1 false [(0, 3)] [(NV.int .i64 (.ofNat 0)), (NV.str 0 0), (NV.int .i64 (.ofNat 0))] [v75] h73) fun v76 h77 =>
 mK (appM Tryz.prog 95 v70 v76 h77) fun v78 h79 =>
 L15 v68 v69 v78 v71 h79) fun J74 =>
 condK v44 (
 bK (nilO v11) fun v80 =>
 bK (fAddr 1 v80) fun v81 =>
 bK (ldO 1 false h65 v81) fun v82 =>
 J74 v10 v11 v12 v82 v28 h65) (
 J74 v10 v11 v12 v13 v28 h65))) fun J66 => gK v45 false (
 bK (pickO v49 v61 (NV.bool false)) fun v83 =>
 J66 v83 h62) (J66 (NV.tuple []) h62)) fun J63 => gK v49 true (
 bK (eqI v55 v58) fun v84 =>
 J63 v84 h59) (J63 (NV.tuple []) h59)) fun J60 => gK v49 true (
 J60 v13 h56) (J60 (NV.tuple []) h56)) fun J57 => gK v49 true (
 bK (ldO 1 false h53 v52) fun v85 =>
 J57 v85 h53) (J57 (NV.tuple []) h53)) fun J54 => gK v49 true (
 bK (fAddr 2 v28) fun v86 =>
 J54 v86 h50) (J54 (NV.tuple []) h50)) fun J51 => gK v45 false (
 J51 v46 h47) (J51 (NV.tuple []) h47)) fun J48 => gK v45 false (
 J48 v44 h42) (J48 (NV.tuple []) h42)) fun J43 => gK v34 false (
 bK (eqI v38 (NV.int .i64 (.ofNat 3))) fun v87 =>
 J43 v87 h39) (J43 (NV.tuple []) h39)) fun J40 => gK v34 false (
 bK (ldO 1 false h36 v35) fun v88 =>
 J40 v88 h36) (J40 (NV.tuple []) h36)) fun J37 => gK v34 false (
 bK (fAddr 0 v28) fun v89 =>
 J37 v89 h31) (J37 (NV.tuple []) h31)))) v0 v8 NV.nslice (NV.int .i64 (.negSucc 0)) h9)))
theorem e28 : ikB Tryz.prog 6 Tryz.f28 = S28 := by kernel_rfl
theorem k28 (w0 : World) : SOK cW w0 28 S28 := okW Tryz.func28 (by kernel_rfl) e28
noncomputable def S29 (call : CallF) (N : Nat) (l : List NV) (h : H) : R :=
 uc l fun v0 l1 => un l1 (
 bK (nilO v0) fun v2 =>
 bK (fAddr 1 v2) fun v3 =>
 bK (ldO 1 false h v3) fun v4 =>
 bK (lenSl v4) fun v5 =>
 bK (eqI v5 (NV.int .i64 (.ofNat 0))) fun v6 =>
 jK (fun v7 h8 =>
 jK (fun v10 h11 =>
 jK (fun v13 h14 =>
 jK (fun v16 h17 =>
 jK (fun v19 h20 =>
 jK (fun v22 h23 =>
 jK (fun v25 h26 =>
 jK (fun v28 h29 =>
 bK (pickO v6 (NV.bool true) v28) fun v31 =>
 jK (fun v32 h33 =>
 jK (fun v35 h36 =>
 jK (fun v38 h39 =>
 jK (fun v41 h42 =>
 jK (fun v44 h45 =>
 jK (fun v47 h48 =>
 jK (fun v50 h51 =>
 jK (fun v53 h54 =>
 jK (fun v56 h57 =>
 bK (pickO v31 (NV.bool true) v56) fun v59 =>
 jK (fun v60 h61 =>
 jK (fun v63 h64 =>
 jK (fun v66 h67 =>
 jK (fun v69 h70 =>
 jK (fun v72 h73 =>
 jK (fun v75 h76 =>
 jK (fun v78 h79 =>
 jK (fun v81 h82 =>
 jK (fun v84 h85 =>
 jK (fun v87 h88 =>
 jK (fun v90 h91 =>
 bK (pickO v59 (NV.bool true) v90) fun v93 =>
 condK v93 (
 retC (NV.str 0 0) h91) (
 bK (nilO v0) fun v94 =>
 bK (fAddr 1 v94) fun v95 =>
 bK (ldO 1 false h91 v95) fun v96 =>
 bK (ixS 3 v96 (NV.int .i64 (.ofNat 0))) fun v97 =>
 bK (fAddr 2 v97) fun v98 =>
 bK (ldO 1 false h91 v98) fun v99 =>
 bK (ixS 3 v99 (NV.int .i64 (.ofNat 0))) fun v100 =>
 bK (fAddr 1 v100) fun v101 =>
 bK (ldO 1 false h91 v101) fun v102 =>
 retC v102 h91)) fun J92 => gK v59 false (
 bK (neI v87 (NV.int .i64 (.ofNat 2))) fun v103 =>
 J92 v103 h88) (J92 (NV.tuple []) h88)) fun J89 => gK v59 false (
 bK (ldO 1 false h85 v84) fun v104 =>
 J89 v104 h85) (J89 (NV.tuple []) h85)) fun J86 => gK v59 false (
 bK (fAddr 0 v81) fun v105 =>
 J86 v105 h82) (J86 (NV.tuple []) h82)) fun J83 => gK v59 false (
 bK (ixS 3 v78 (NV.int .i64 (.ofNat 0))) fun v106 =>
 J83 v106 h79) (J83 (NV.tuple []) h79)) fun J80 => gK v59 false (
 bK (ldO 1 false h76 v75) fun v107 =>
 J80 v107 h76) (J80 (NV.tuple []) h76)) fun J77 => gK v59 false (
 bK (fAddr 2 v72) fun v108 =>
 J77 v108 h73) (J77 (NV.tuple []) h73)) fun J74 => gK v59 false (
 bK (ixS 3 v69 (NV.int .i64 (.ofNat 0))) fun v109 =>
 J74 v109 h70) (J74 (NV.tuple []) h70)) fun J71 => gK v59 false (
 bK (ldO 1 false h67 v66) fun v110 =>
 J71 v110 h67) (J71 (NV.tuple []) h67)) fun J68 => gK v59 false (
 bK (fAddr 1 v63) fun v111 =>
 J68 v111 h64) (J68 (NV.tuple []) h64)) fun J65 => gK v59 false (
 bK (nilO v60) fun v112 =>
 J65 v112 h61) (J65 (NV.tuple []) h61)) fun J62 => gK v59 false (
 J62 v0 h57) (J62 (NV.tuple []) h57)) fun J58 => gK v31 false (
 bK (eqI v53 (NV.int .i64 (.ofNat 0))) fun v113 =>
 J58 v113 h54) (J58 (NV.tuple []) h54)) fun J55 => gK v31 false (
 bK (lenSl v50) fun v114 =>
 J55 v114 h51) (J55 (NV.tuple []) h51)) fun J52 => gK v31 false (
 bK (ldO 1 false h48 v47) fun v115 =>
 J52 v115 h48) (J52 (NV.tuple []) h48)) fun J49 => gK v31 false (
 bK (fAddr 2 v44) fun v116 =>
 J49 v116 h45) (J49 (NV.tuple []) h45)) fun J46 => gK v31 false (
 bK (ixS 3 v41 (NV.int .i64 (.ofNat 0))) fun v117 =>
 J46 v117 h42) (J46 (NV.tuple []) h42)) fun J43 => gK v31 false (
 bK (ldO 1 false h39 v38) fun v118 =>
 J43 v118 h39) (J43 (NV.tuple []) h39)) fun J40 => gK v31 false (
 bK (fAddr 1 v35) fun v119 =>
 J40 v119 h36) (J40 (NV.tuple []) h36)) fun J37 => gK v31 false (
 bK (nilO v32) fun v120 =>
 J37 v120 h33) (J37 (NV.tuple []) h33)) fun J34 => gK v31 false (
 J34 v0 h29) (J34 (NV.tuple []) h29)) fun J30 => gK v6 false (
 bK (neI v25 (NV.int .i64 (.ofNat 4))) fun v121 =>
 J30 v121 h26) (J30 (NV.tuple []) h26)) fun J27 => gK v6 false (
 bK (ldO 1 false h23 v22) fun v122 =>
 J27 v122 h23) (J27 (NV.tuple []) h23)) fun J24 => gK v6 false (
 bK (fAddr 0 v19) fun v123 =>
 J24 v123 h20) (J24 (NV.tuple []) h20)) fun J21 => gK v6 false (
 bK (ixS 3 v16 (NV.int .i64 (.ofNat 0))) fun v124 =>
 J21 v124 h17) (J21 (NV.tuple []) h17)) fun J18 => gK v6 false (
 bK (ldO 1 false h14 v13) fun v125 =>
 J18 v125 h14) (J18 (NV.tuple []) h14)) fun J15 => gK v6 false (
 bK (fAddr 1 v10) fun v126 =>
 J15 v126 h11) (J15 (NV.tuple []) h11)) fun J12 => gK v6 false (
 bK (nilO v7) fun v127 =>
 J12 v127 h8) (J12 (NV.tuple []) h8)) fun J9 => gK v6 false (
 J9 v0 h) (J9 (NV.tuple []) h))
theorem e29 : ikB Tryz.prog 6 Tryz.f29 = S29 := by kernel_rfl
theorem k29 (w0 : World) : SOK cW w0 29 S29 := okW Tryz.func29 (by kernel_rfl) e29
noncomputable def S30 (call : CallF) (N : Nat) (l : List NV) (h : H) : R :=
 uc l fun v0 l1 => un l1 (
 bK (nilO v0) fun v2 =>
 bK (fAddr 1 v2) fun v3 =>
 bK (ldO 1 false h v3) fun v4 =>
 bK (lenSl v4) fun v5 =>
 bK (eqI v5 (NV.int .i64 (.ofNat 0))) fun v6 =>
 jK (fun v7 h8 =>
 jK (fun v10 h11 =>
 jK (fun v13 h14 =>
 jK (fun v16 h17 =>
 jK (fun v19 h20 =>
 jK (fun v22 h23 =>
 jK (fun v25 h26 =>
 jK (fun v28 h29 =>
 bK (pickO v6 (NV.bool true) v28) fun v31 =>
 condK v31 (
 retC (NV.str 0 0) h29) (
 bK (nilO v0) fun v32 =>
 bK (fAddr 1 v32) fun v33 =>
 bK (ldO 1 false h29 v33) fun v34 =>
 bK (ixS 3 v34 (NV.int .i64 (.ofNat 0))) fun v35 =>
 bK (fAddr 1 v35) fun v36 =>
 bK (ldO 1 false h29 v36) fun v37 =>
 retC v37 h29)) fun J30 => gK v6 false (
 bK (neI v25 (NV.int .i64 (.ofNat 2))) fun v38 =>
 J30 v38 h26) (J30 (NV.tuple []) h26)) fun J27 => gK v6 false (
 bK (ldO 1 false h23 v22) fun v39 =>
 J27 v39 h23) (J27 (NV.tuple []) h23)) fun J24 => gK v6 false (
 bK (fAddr 0 v19) fun v40 =>
 J24 v40 h20) (J24 (NV.tuple []) h20)) fun J21 => gK v6 false (
 bK (ixS 3 v16 (NV.int .i64 (.ofNat 0))) fun v41 =>
 J21 v41 h17) (J21 (NV.tuple []) h17)) fun J18 => gK v6 false (
 bK (ldO 1 false h14 v13) fun v42 =>
 J18 v42 h14) (J18 (NV.tuple []) h14)) fun J15 => gK v6 false (
 bK (fAddr 1 v10) fun v43 =>
 J15 v43 h11) (J15 (NV.tuple []) h11)) fun J12 => gK v6 false (
 bK (nilO v7) fun v44 =>
 J12 v44 h8) (J12 (NV.tuple []) h8)) fun J9 => gK v6 false (
 J9 v0 h) (J9 (NV.tuple []) h))
theorem e30 : ikB Tryz.prog 6 Tryz.f30 = S30 := by kernel_rfl
theorem k30 (w0 : World) : SOK cW w0 30 S30 := okW Tryz.func30 (by kernel_rfl) e30
noncomputable def S31 (call : CallF) (N : Nat) (l : List NV) (h : H) : R :=
 uc l fun v0 l1 => uc l1 fun v2 l3 => un l3 (
 bK (nilO v0) fun v4 =>
 bK (fAddr 26 v4) fun v5 =>
 bK (ldO 1 false h v5) fun v6 =>
 jK (fun v7 h8 =>
 jK (fun v10 h11 =>
 bK (pickO v6 (NV.bool true) v10) fun v13 =>
 bK (nilO v0) fun v14 =>
 bK (fAddr 26 v14) fun v15 =>
 mK (stM 1 v15 v13 h11) fun v16 h17 =>
 retC (NV.tuple []) h17) fun J12 => gK v6 false (
 bK (notO v7) fun v18 =>
 J12 v18 h8) (J12 (NV.tuple []) h8)) fun J9 => gK v6 false (
 J9 v2 h) (J9 (NV.tuple []) h))
theorem e31 : ikB Tryz.prog 6 Tryz.f31 = S31 := by kernel_rfl
theorem k31 (w0 : World) : SOK cW w0 31 S31 := okW Tryz.func31 (by kernel_rfl) e31
noncomputable def S32 (call : CallF) (N : Nat) (l : List NV) (h : H) : R :=
 uc l fun v0 l1 => uc l1 fun v2 l3 => un l3 (
 bK (binO .eql v2 (NV.str 4 1701869940)) fun v4 =>
 condK v4 (
 bK (nilO v0) fun v5 =>
 bK (fAddr 0 v5) fun v6 =>
 bK (ldO 1 false h (chkV h v6)) fun v7 =>
 mK (calM call 13 [(chkV h v0)] h) fun v8 h9 =>
 nextK h h9 (
 bK (ldO 1 false h9 (chkV h9 v6)) fun v10 =>
 sameK v10 v7 (
 mK (calM call 45 [(chkV h9 v7), (NV.int .i64 (.ofNat 4)), (chkV h9 v8)] h9) fun v11 h12 =>
 nextK h9 h12 (
 mK (calM call 12 [v0, (NV.str 4 1668183398)] h12) fun v13 h14 =>
 bK (extO 0 v13) fun v15 =>
 bK (extO 1 v13) fun v16 =>
 bK (nilO v0) fun v17 =>
 bK (fAddr 0 v17) fun v18 =>
 bK (ldO 1 false h14 v18) fun v19 =>
 mK (calM call 31 [v19, v16] h14) fun v20 h21 =>
 mK (calM call 46 [v15, (NV.bool true)] h21) fun v22 h23 =>
 bK (extO 0 v22) fun v24 =>
 bK (extO 1 v22) fun v25 =>
 bK (extO 2 v22) fun v26 =>
 mK (alM (NB.cells [NV.nslice, NV.nslice]) h23) fun v27 h28 =>
 mK (stM 2 v27 v25 h28) fun v29 h30 =>
 mK (calM call 34 [v15] h30) fun v31 h32 =>
 mK (calM call 34 [v0] h32) fun v33 h34 =>
 bK (nilO v0) fun v35 =>
 bK (fAddr 0 v35) fun v36 =>
 bK (ldO 1 false h34 (chkV h34 v36)) fun v37 =>
 bK (nilO v0) fun v38 =>
 bK (fAddr 0 v38) fun v39 =>
 bK (ldO 1 false h34 (chkV h34 v39)) fun v40 =>
 bK (nilO v40) fun v41 =>
 bK (fAddr 0 v41) fun v42 =>
 bK (fAddr 0 v42) fun v43 =>
 bK (ldO 1 false h34 (chkV h34 v43)) fun v44 =>
 bK (ldO 2 true h34 (chkV h34 v27)) fun v45 =>
 mK (bslM 1 false [(0, 2)] [NV.nslice, NV.nslice] [(chkV h34 v45)] h34) fun v46 h47 =>
 mK (appM Tryz.prog 71 (chkV h47 v44) (chkV h47 v46) h47) fun v48 h49 =>
 nextK h47 h49 (
 bK (nilO v37) fun v50 =>
 bK (fAddr 0 v50) fun v51 =>
 bK (fAddr 0 v51) fun v52 =>
 bK (ldO 1 false h49 (chkV h49 v36)) fun v53 =>
 sameK v53 v37 (
 mK (stM 1 (chkV h49 v52) (chkV h49 v48) h49) fun v54 h55 =>
 nextK h49 h55 (
 retC (NV.tuple []) h55))))))) (
 bK (binO .eql v2 (NV.str 6 128034844732777)) fun v56 =>
 condK v56 (
 bK (nilO v0) fun v57 =>
 bK (fAddr 0 v57) fun v58 =>
 bK (ldO 1 false h (chkV h v58)) fun v59 =>
 bK (nilO v0) fun v60 =>
 bK (fAddr 0 v60) fun v61 =>
 bK (ldO 1 false h (chkV h v61)) fun v62 =>
 bK (nilO v62) fun v63 =>
 bK (fAddr 25 v63) fun v64 =>
 bK (ldO 1 false h (chkV h v64)) fun v65 =>
 bK (notO v65) fun v66 =>
 mK (calM call 31 [(chkV h v59), (chkV h v66)] h) fun v67 h68 =>
 nextK h h68 (
 mK (calM call 47 [v0] h68) fun v69 h70 =>
 mK (calM call 47 [v0] h70) fun v71 h72 =>
 mK (calM call 29 [v0] h72) fun v73 h74 =>
 mK (calM call 48 [v73] h74) fun v75 h76 =>
 bK (nilO v0) fun v77 =>
 bK (fAddr 0 v77) fun v78 =>
 bK (ldO 1 false h76 v78) fun v79 =>
 bK (geI v75 (NV.int .i64 (.ofNat 0))) fun v80 =>
 mK (calM call 31 [v79, v80] h76) fun v81 h82 =>
 mK (calM call 29 [v0] h82) fun v83 h84 =>
 mK (calM call 12 [v0, v83] h84) fun v85 h86 =>
 bK (extO 0 v85) fun v87 =>
 bK (extO 1 v85) fun v88 =>
 bK (geI v75 (NV.int .i64 (.ofNat 0))) fun v89 =>
 condK v89 (
 bK (nilO v0) fun v90 =>
 bK (fAddr 0 v90) fun v91 =>
 bK (ldO 1 false h86 (chkV h86 v91)) fun v92 =>
 mK (calM call 13 [(chkV h86 v87)] h86) fun v93 h94 =>
 nextK h86 h94 (
 bK (ldO 1 false h94 (chkV h94 v91)) fun v95 =>
 sameK v95 v92 (
 mK (calM call 45 [(chkV h94 v92), (chkV h94 v75), (chkV h94 v93)] h94) fun v96 h97 =>
 nextK h94 h97 (
 retC (NV.tuple []) h97)))) (
 retC (NV.tuple []) h86))) (
 bK (binO .eql v2 (NV.str 4 1835363429)) fun v98 =>
 condK v98 (
 bK (nilO v0) fun v99 =>
 bK (fAddr 0 v99) fun v100 =>
 bK (ldO 1 false h (chkV h v100)) fun v101 =>
 mK (calM call 13 [(chkV h v0)] h) fun v102 h103 =>
 nextK h h103 (
 bK (ldO 1 false h103 (chkV h103 v100)) fun v104 =>
 sameK v104 v101 (
 mK (calM call 45 [(chkV h103 v101), (NV.int .i64 (.ofNat 5)), (chkV h103 v102)] h103) fun v105 h106 =>
 nextK h103 h106 (
 retC (NV.tuple []) h106)))) (
 bK (binO .eql v2 (NV.str 4 1635017060)) fun v107 =>
 condK v107 (
 bK (nilO v0) fun v108 =>
 bK (fAddr 0 v108) fun v109 =>
 bK (ldO 1 false h (chkV h v109)) fun v110 =>
 mK (calM call 13 [(chkV h v0)] h) fun v111 h112 =>
 nextK h h112 (
 bK (ldO 1 false h112 (chkV h112 v109)) fun v113 =>
 sameK v113 v110 (
 mK (calM call 45 [(chkV h112 v110), (NV.int .i64 (.ofNat 6)), (chkV h112 v111)] h112) fun v114 h115 =>
 nextK h112 h115 (
 retC (NV.tuple []) h115)))) (
 bK (binO .eql v2 (NV.str 6 128034844735589)) fun v116 =>
 joinC 3 (fun v117 v118 v119 h120 =>
 condK v119 (
 retC (NV.tuple []) h120) (
 mK (calM call 48 [v118] h120) fun v122 h123 =>
 bK (nilO v117) fun v124 =>
 bK (fAddr 0 v124) fun v125 =>
 bK (ldO 1 false h123 v125) fun v126 =>
 bK (geI v122 (NV.int .i64 (.ofNat 0))) fun v127 =>
 mK (calM call 31 [v126, v127] h123) fun v128 h129 =>
 bK (geI v122 (NV.int .i64 (.ofNat 0))) fun v130 =>
 condK v130 (
 mK (calM call 49 [v117, v122] h129) fun v131 h132 =>
 retC (NV.tuple []) h132) (
 retC (NV.tuple []) h129))) fun J121 =>
 condK v116 (
 J121 v0 v2 v116 h) (
 bK (binO .eql v2 (NV.str 5 500135195763)) fun v133 =>
 J121 v0 v2 v133 h))))))
theorem e32 : ikB Tryz.prog 6 Tryz.f32 = S32 := by kernel_rfl
theorem k32 (w0 : World) : SOK cW w0 32 S32 := okW Tryz.func32 (by kernel_rfl) e32
noncomputable def S33 (call : CallF) (N : Nat) (l : List NV) (h : H) : R :=
 uc l fun v0 l1 => uc l1 fun v2 l3 => un l3 (
 bK (nilO v0) fun v4 =>
 bK (fAddr 0 v4) fun v5 =>
 bK (ldO 1 false h v5) fun v6 =>
 bK (nilO v6) fun v7 =>
 bK (fAddr 0 v7) fun v8 =>
 bK (binO .eql v2 (NV.str 4 1701869940)) fun v9 =>
 condK v9 (
 bK (nilO v0) fun v10 =>
 bK (fAddr 1 v10) fun v11 =>
 mK (stM 1 v11 NV.nslice h) fun v12 h13 =>
 retC (NV.tuple []) h13) (
 bK (binO .eql v2 (NV.str 6 128034844732777)) fun v14 =>
 condK v14 (
 mK (calM call 47 [v0] h) fun v15 h16 =>
 bK (bldO [(0, 1)] [(NV.str 0 0), (NV.str 0 0), (NV.int .i64 (.ofNat 0)), (NV.int .i64 (.ofNat 0)), (NV.int .i64 (.ofNat 0)), (NV.int .i64 (.ofNat 0)), (NV.int .i64 (.ofNat 0)), (NV.bool false), (NV.int .i64 (.ofNat 0)), (NV.int .i64 (.ofNat 0)), (NV.bool false), (NV.int .i64 (.ofNat 0)), (NV.bool false)] [v15]) fun v17 =>
 mK (alM (NB.cells [(NV.str 0 0), (NV.str 0 0), (NV.int .i64 (.ofNat 0)), (NV.int .i64 (.ofNat 0)), (NV.int .i64 (.ofNat 0)), (NV.int .i64 (.ofNat 0)), (NV.int .i64 (.ofNat 0)), (NV.bool false), (NV.int .i64 (.ofNat 0)), (NV.int .i64 (.ofNat 0)), (NV.bool false), (NV.int .i64 (.ofNat 0)), (NV.bool false)]) h16) fun v18 h19 =>
 mK (stM 13 v18 v17 h19) fun v20 h21 =>
 mK (calM call 47 [v0] h21) fun v22 h23 =>
 bK (fAddr 1 v18) fun v24 =>
 mK (stM 1 v24 v22 h23) fun v25 h26 =>
 mK (calM call 29 [v0] h26) fun v27 h28 =>
 mK (calM call 12 [v0, v27] h28) fun v29 h30 =>
 bK (extO 0 v29) fun v31 =>
 bK (extO 1 v29) fun v32 =>
 mK (calM call 13 [v31] h30) fun v33 h34 =>
 bK (ldO 13 true h34 (chkV h34 v18)) fun v35 =>
 mK (calM call 48 [(chkV h34 v27)] h34) fun v36 h37 =>
 nextK h34 h37 (
 bK (ldO 13 true h37 (chkV h37 v18)) fun v38 =>
 sameK v38 v35 (
 mK (calM call 50 [(chkV h37 v31), (chkV h37 v35), (chkV h37 v36)] h37) fun v39 h40 =>
 nextK h37 h40 (
 mK (calM call 34 [v31] h40) fun v41 h42 =>
 retC (NV.tuple []) h42)))) (
 bK (binO .eql v2 (NV.str 6 128034844735589)) fun v43 =>
 condK v43 (
 mK (calM call 47 [v0] h) fun v44 h45 =>
 mK (calM call 29 [v0] h45) fun v46 h47 =>
 mK (calM call 48 [v46] h47) fun v48 h49 =>
 bK (bldO [(0, 1), (1, 1)] [(NV.str 0 0), (NV.int .i64 (.ofNat 0)), (NV.int .i64 (.ofNat 0))] [v44, v48]) fun v50 =>
 mK (alM (NB.cells [(NV.str 0 0), (NV.int .i64 (.ofNat 0)), (NV.int .i64 (.ofNat 0))]) h49) fun v51 h52 =>
 mK (stM 3 v51 v50 h52) fun v53 h54 =>
 bK (nilO v0) fun v55 =>
 bK (fAddr 0 v55) fun v56 =>
 bK (ldO 1 false h54 (chkV h54 v56)) fun v57 =>
 bK (fAddr 1 v51) fun v58 =>
 bK (ldO 1 false h54 (chkV h54 v58)) fun v59 =>
 bK (geI v59 (NV.int .i64 (.ofNat 0))) fun v60 =>
 mK (calM call 31 [(chkV h54 v57), (chkV h54 v60)] h54) fun v61 h62 =>
 nextK h54 h62 (
 mK (calM call 29 [v0] h62) fun v63 h64 =>
 mK (calM call 12 [v0, v63] h64) fun v65 h66 =>
 bK (extO 0 v65) fun v67 =>
 bK (extO 1 v65) fun v68 =>
 bK (fAddr 1 v51) fun v69 =>
 bK (ldO 1 false h66 v69) fun v70 =>
 bK (geI v70 (NV.int .i64 (.ofNat 0))) fun v71 =>
 joinC 2 (fun v72 v73 h74 =>
 bK (nilO v72) fun v76 =>
 bK (fAddr 6 v76) fun v77 =>
 bK (ldO 1 false h74 (chkV h74 v77)) fun v78 =>
 bK (ldO 3 true h74 (chkV h74 v73)) fun v79 =>
 mK (bslM 1 false [(0, 3)] [(NV.str 0 0), (NV.int .i64 (.ofNat 0)), (NV.int .i64 (.ofNat 0))] [(chkV h74 v79)] h74) fun v80 h81 =>
 mK (appM Tryz.prog 51 (chkV h81 v78) (chkV h81 v80) h81) fun v82 h83 =>
 nextK h81 h83 (
 bK (nilO v72) fun v84 =>
 bK (fAddr 6 v84) fun v85 =>
 mK (stM 1 (chkV h83 v85) (chkV h83 v82) h83) fun v86 h87 =>
 nextK h83 h87 (
 retC (NV.tuple []) h87))) fun J75 =>
 condK v71 (
 bK (nilO v0) fun v88 =>
 bK (fAddr 0 v88) fun v89 =>
 bK (ldO 1 false h66 (chkV h66 v89)) fun v90 =>
 bK (fAddr 1 v51) fun v91 =>
 bK (ldO 1 false h66 (chkV h66 v91)) fun v92 =>
 bK (nilO v90) fun v93 =>
 bK (fAddr 11 v93) fun v94 =>
 bK (ixA 7 1 v94 v92) fun v95 =>
 bK (ldO 1 false h66 (chkV h66 v95)) fun v96 =>
 mK (calM call 51 [(chkV h66 v67), (chkV h66 v96)] h66) fun v97 h98 =>
 nextK h66 h98 (
 bK (fAddr 2 v51) fun v99 =>
 mK (stM 1 (chkV h98 v99) (chkV h98 v97) h98) fun v100 h101 =>
 nextK h98 h101 (
 mK (calM call 34 [v67] h101) fun v102 h103 =>
 J75 v8 v51 h103))) (
 J75 v8 v51 h66))) (
 bK (binO .eql v2 (NV.str 5 500135195763)) fun v104 =>
 condK v104 (
 bK (nilO v0) fun v105 =>
 bK (fAddr 0 v105) fun v106 =>
 bK (ldO 1 false h (chkV h v106)) fun v107 =>
 bK (nilO v8) fun v108 =>
 bK (fAddr 7 v108) fun v109 =>
 bK (ldO 1 false h (chkV h v109)) fun v110 =>
 bK (eqI v110 (NV.int .i64 (.ofNat 0))) fun v111 =>
 mK (calM call 31 [(chkV h v107), (chkV h v111)] h) fun v112 h113 =>
 nextK h h113 (
 bK (nilO v0) fun v114 =>
 bK (fAddr 0 v114) fun v115 =>
 bK (ldO 1 false h113 v115) fun v116 =>
 bK (nilO v116) fun v117 =>
 bK (fAddr 11 v117) fun v118 =>
 bK (ixA 7 1 v118 (NV.int .i64 (.ofNat 0))) fun v119 =>
 bK (ldO 1 false h113 v119) fun v120 =>
 mK (calM call 51 [v0, v120] h113) fun v121 h122 =>
 bK (addI v121 (NV.int .i64 (.ofNat 1))) fun v123 =>
 bK (nilO v8) fun v124 =>
 bK (fAddr 7 v124) fun v125 =>
 mK (stM 1 v125 v123 h122) fun v126 h127 =>
 retC (NV.tuple []) h127)) (
 bK (binO .eql v2 (NV.str 4 1835363429)) fun v128 =>
 condK v128 (
 mK (calM call 13 [v0] h) fun v129 h130 =>
 mK (calM call 52 [v0] h130) fun v131 h132 =>
 retC (NV.tuple []) h132) (
 bK (binO .eql v2 (NV.str 4 1635017060)) fun v133 =>
 condK v133 (
 mK (calM call 13 [v0] h) fun v134 h135 =>
 mK (calM call 53 [v0] h135) fun v136 h137 =>
 retC (NV.tuple []) h137) (
 mK (calM call 13 [v0] h) fun v138 h139 =>
 mK (calM call 48 [v2] h139) fun v140 h141 =>
 mK (calM call 54 [v0, v140] h141) fun v142 h143 =>
 retC (NV.tuple []) h143)))))))
theorem e33 : ikB Tryz.prog 6 Tryz.f33 = S33 := by kernel_rfl
theorem k33 (w0 : World) : SOK cW w0 33 S33 := okW Tryz.func33 (by kernel_rfl) e33
noncomputable def S34 (call : CallF) (N : Nat) (l : List NV) (h : H) : R :=
 uc l fun v0 l1 => un l1 (
 bK (nilO v0) fun v2 =>
 bK (fAddr 0 v2) fun v3 =>
 bK (ldO 1 false h (chkV h v3)) fun v4 =>
 bK (nilO v0) fun v5 =>
 bK (fAddr 1 v5) fun v6 =>
 bK (ldO 1 false h (chkV h v6)) fun v7 =>
 bK (lenSl v7) fun v8 =>
 bK (eqI v8 (NV.int .i64 (.ofNat 0))) fun v9 =>
 mK (calM call 31 [(chkV h v4), (chkV h v9)] h) fun v10 h11 =>
 nextK h h11 (
 retC (NV.tuple []) h11))
theorem e34 : ikB Tryz.prog 6 Tryz.f34 = S34 := by kernel_rfl
theorem k34 (w0 : World) : SOK cW w0 34 S34 := okW Tryz.func34 (by kernel_rfl) e34
noncomputable def S35 (call : CallF) (N : Nat) (l : List NV) (h : H) : R :=
 uc l fun v0 l1 => un l1 (
 mK (boxM false v0 h) fun v2 h3 =>
 mK (alM (NB.cells [NV.nilFunc]) h3) fun v4 h5 =>
 mK (stM 1 v4 (NV.func (.func 55) [] []) h5) fun v6 h7 =>
 bK (fAddr 2 v2) fun v8 =>
 bK (ldO 1 false h7 v8) fun v9 =>
 mK (calM call 57 [v9, (NV.func (.func 58) [] [v4])] h7) fun v10 h11 =>
 jK (fun v12 h13 =>
 jK (fun v15 h16 =>
 jK (fun v18 h19 =>
 jK (fun v21 h22 =>
 bK (pickO v10 (NV.bool true) v21) fun v24 =>
 jK (fun v25 h26 =>
 jK (fun v28 h29 =>
 jK (fun v31 h32 =>
 jK (fun v34 h35 =>
 bK (pickO v24 (NV.bool true) v34) fun v37 =>
 jK (fun v38 h39 =>
 jK (fun v41 h42 =>
 jK (fun v44 h45 =>
 jK (fun v47 h48 =>
 bK (pickO v37 (NV.bool true) v47) fun v50 =>
 retC v50 h48) fun J49 => gK v37 false (
 mK (calM call 64 [v41, v44] h45) fun v51 h52 =>
 J49 v51 h52) (J49 (NV.tuple []) h45)) fun J46 => gK v37 false (
 J46 (NV.func (.func 65) [] [v4]) h42) (J46 (NV.tuple []) h42)) fun J43 => gK v37 false (
 bK (ldO 1 false h39 v38) fun v53 =>
 J43 v53 h39) (J43 (NV.tuple []) h39)) fun J40 => gK v37 false (
 bK (fAddr 9 v2) fun v54 =>
 J40 v54 h35) (J40 (NV.tuple []) h35)) fun J36 => gK v24 false (
 mK (calM call 61 [v28, v31] h32) fun v55 h56 =>
 J36 v55 h56) (J36 (NV.tuple []) h32)) fun J33 => gK v24 false (
 J33 (NV.func (.func 62) [] [v4]) h29) (J33 (NV.tuple []) h29)) fun J30 => gK v24 false (
 bK (ldO 1 false h26 v25) fun v57 =>
 J30 v57 h26) (J30 (NV.tuple []) h26)) fun J27 => gK v24 false (
 bK (fAddr 8 v2) fun v58 =>
 J27 v58 h22) (J27 (NV.tuple []) h22)) fun J23 => gK v10 false (
 mK (calM call 59 [v15, v18] h19) fun v59 h60 =>
 J23 v59 h60) (J23 (NV.tuple []) h19)) fun J20 => gK v10 false (
 J20 (NV.func (.func 60) [] [v4]) h16) (J20 (NV.tuple []) h16)) fun J17 => gK v10 false (
 bK (ldO 1 false h13 v12) fun v61 =>
 J17 v61 h13) (J17 (NV.tuple []) h13)) fun J14 => gK v10 false (
 bK (fAddr 5 v2) fun v62 =>
 J14 v62 h11) (J14 (NV.tuple []) h11))
theorem e35 : ikB Tryz.prog 6 Tryz.f35 = S35 := by kernel_rfl
theorem k35 (w0 : World) : SOK cW w0 35 S35 := okW Tryz.func35 (by kernel_rfl) e35
noncomputable def S36 (call : CallF) (N : Nat) (l : List NV) (h : H) : R :=
 uc l fun v0 l1 => un l1 (
 mK (boxM false v0 h) fun v2 h3 =>
 mK (alM (NB.cells [NV.nilFunc]) h3) fun v4 h5 =>
 mK (stM 1 v4 (NV.func (.func 74) [] []) h5) fun v6 h7 =>
 bK (fAddr 0 v2) fun v8 =>
 bK (ldO 1 false h7 v8) fun v9 =>
 mK (calM call 79 [v9, (NV.func (.func 66) [] [])] h7) fun v10 h11 =>
 jK (fun v12 h13 =>
 jK (fun v15 h16 =>
 jK (fun v18 h19 =>
 bK (pickO v10 v18 (NV.bool false)) fun v21 =>
 jK (fun v22 h23 =>
 jK (fun v25 h26 =>
 jK (fun v28 h29 =>
 jK (fun v31 h32 =>
 bK (pickO v21 v31 (NV.bool false)) fun v34 =>
 jK (fun v35 h36 =>
 jK (fun v38 h39 =>
 jK (fun v41 h42 =>
 bK (pickO v34 v41 (NV.bool false)) fun v44 =>
 jK (fun v45 h46 =>
 jK (fun v48 h49 =>
 jK (fun v51 h52 =>
 bK (pickO v44 v51 (NV.bool false)) fun v54 =>
 jK (fun v55 h56 =>
 jK (fun v58 h59 =>
 jK (fun v61 h62 =>
 jK (fun v64 h65 =>
 bK (pickO v54 v64 (NV.bool false)) fun v67 =>
 jK (fun v68 h69 =>
 jK (fun v71 h72 =>
 jK (fun v74 h75 =>
 jK (fun v77 h78 =>
 bK (pickO v67 v77 (NV.bool false)) fun v80 =>
 jK (fun v81 h82 =>
 jK (fun v84 h85 =>
 jK (fun v87 h88 =>
 bK (pickO v80 v87 (NV.bool false)) fun v90 =>
 jK (fun v91 h92 =>
 jK (fun v94 h95 =>
 jK (fun v97 h98 =>
 bK (pickO v90 v97 (NV.bool false)) fun v100 =>
 jK (fun v101 h102 =>
 jK (fun v104 h105 =>
 jK (fun v107 h108 =>
 jK (fun v110 h111 =>
 bK (pickO v100 v110 (NV.bool false)) fun v113 =>
 jK (fun v114 h115 =>
 jK (fun v117 h118 =>
 jK (fun v120 h121 =>
 jK (fun v123 h124 =>
 bK (pickO v113 v123 (NV.bool false)) fun v126 =>
 jK (fun v127 h128 =>
 jK (fun v130 h131 =>
 jK (fun v133 h134 =>
 jK (fun v136 h137 =>
 jK (fun v139 h140 =>
 jK (fun v142 h143 =>
 jK (fun v145 h146 =>
 bK (pickO v126 v145 (NV.bool false)) fun v148 =>
 retC v148 h146) fun J147 => gK v126 true (
 bK (pickO v133 (NV.bool true) v142) fun v149 =>
 J147 v149 h143) (J147 (NV.tuple []) h143)) fun J144 => gK v133 false (
 bK (notO v139) fun v150 =>
 J144 v150 h140) (J144 (NV.tuple []) h140)) fun J141 => gK v133 false (
 mK (calM call 91 [v136] h137) fun v151 h152 =>
 J141 v151 h152) (J141 (NV.tuple []) h137)) fun J138 => gK v133 false (
 bK (ldO 11 true h134 v2) fun v153 =>
 J138 v153 h134) (J138 (NV.tuple []) h134)) fun J135 => gK v126 true (
 J135 v130 h131) (J135 (NV.tuple []) h131)) fun J132 => gK v126 true (
 bK (ldO 1 false h128 v127) fun v154 =>
 J132 v154 h128) (J132 (NV.tuple []) h128)) fun J129 => gK v126 true (
 bK (fAddr 10 v2) fun v155 =>
 J129 v155 h124) (J129 (NV.tuple []) h124)) fun J125 => gK v113 true (
 mK (calM call 90 [v117, v120] h121) fun v156 h157 =>
 J125 v156 h157) (J125 (NV.tuple []) h121)) fun J122 => gK v113 true (
 J122 (NV.func (.func 78) [] [v4]) h118) (J122 (NV.tuple []) h118)) fun J119 => gK v113 true (
 bK (ldO 1 false h115 v114) fun v158 =>
 J119 v158 h115) (J119 (NV.tuple []) h115)) fun J116 => gK v113 true (
 bK (fAddr 9 v2) fun v159 =>
 J116 v159 h111) (J116 (NV.tuple []) h111)) fun J112 => gK v100 true (
 mK (calM call 89 [v104, v107] h108) fun v160 h161 =>
 J112 v160 h161) (J112 (NV.tuple []) h108)) fun J109 => gK v100 true (
 J109 (NV.func (.func 75) [] [v4]) h105) (J109 (NV.tuple []) h105)) fun J106 => gK v100 true (
 bK (ldO 1 false h102 v101) fun v162 =>
 J106 v162 h102) (J106 (NV.tuple []) h102)) fun J103 => gK v100 true (
 bK (fAddr 8 v2) fun v163 =>
 J103 v163 h98) (J103 (NV.tuple []) h98)) fun J99 => gK v90 true (
 bK (leI v94 (NV.int .i64 (.ofNat 4294967296))) fun v164 =>
 J99 v164 h95) (J99 (NV.tuple []) h95)) fun J96 => gK v90 true (
 bK (ldO 1 false h92 v91) fun v165 =>
 J96 v165 h92) (J96 (NV.tuple []) h92)) fun J93 => gK v90 true (
 bK (fAddr 7 v2) fun v166 =>
 J93 v166 h88) (J93 (NV.tuple []) h88)) fun J89 => gK v80 true (
 bK (geI v84 (NV.int .i64 (.ofNat 0))) fun v167 =>
 J89 v167 h85) (J89 (NV.tuple []) h85)) fun J86 => gK v80 true (
 bK (ldO 1 false h82 v81) fun v168 =>
 J86 v168 h82) (J86 (NV.tuple []) h82)) fun J83 => gK v80 true (
 bK (fAddr 7 v2) fun v169 =>
 J83 v169 h78) (J83 (NV.tuple []) h78)) fun J79 => gK v67 true (
 mK (calM call 88 [v71, v74] h75) fun v170 h171 =>
 J79 v170 h171) (J79 (NV.tuple []) h75)) fun J76 => gK v67 true (
 J76 (NV.func (.func 73) [] []) h72) (J76 (NV.tuple []) h72)) fun J73 => gK v67 true (
 bK (ldO 1 false h69 v68) fun v172 =>
 J73 v172 h69) (J73 (NV.tuple []) h69)) fun J70 => gK v67 true (
 bK (fAddr 6 v2) fun v173 =>
 J70 v173 h65) (J70 (NV.tuple []) h65)) fun J66 => gK v54 true (
 mK (calM call 87 [v58, v61] h62) fun v174 h175 =>
 J66 v174 h175) (J66 (NV.tuple []) h62)) fun J63 => gK v54 true (
 J63 (NV.func (.func 72) [] []) h59) (J63 (NV.tuple []) h59)) fun J60 => gK v54 true (
 bK (ldO 1 false h56 v55) fun v176 =>
 J60 v176 h56) (J60 (NV.tuple []) h56)) fun J57 => gK v54 true (
 bK (fAddr 5 v2) fun v177 =>
 J57 v177 h52) (J57 (NV.tuple []) h52)) fun J53 => gK v44 true (
 mK (calM call 85 [v48, (NV.func (.func 86) [] [])] h49) fun v178 h179 =>
 J53 v178 h179) (J53 (NV.tuple []) h49)) fun J50 => gK v44 true (
 bK (ldO 1 false h46 v45) fun v180 =>
 J50 v180 h46) (J50 (NV.tuple []) h46)) fun J47 => gK v44 true (
 bK (fAddr 4 v2) fun v181 =>
 J47 v181 h42) (J47 (NV.tuple []) h42)) fun J43 => gK v34 true (
 mK (calM call 83 [v38, (NV.func (.func 84) [] [])] h39) fun v182 h183 =>
 J43 v182 h183) (J43 (NV.tuple []) h39)) fun J40 => gK v34 true (
 bK (ldO 1 false h36 v35) fun v184 =>
 J40 v184 h36) (J40 (NV.tuple []) h36)) fun J37 => gK v34 true (
 bK (fAddr 3 v2) fun v185 =>
 J37 v185 h32) (J37 (NV.tuple []) h32)) fun J33 => gK v21 true (
 mK (calM call 82 [v25, v28] h29) fun v186 h187 =>
 J33 v186 h187) (J33 (NV.tuple []) h29)) fun J30 => gK v21 true (
 J30 (NV.func (.func 69) [] []) h26) (J30 (NV.tuple []) h26)) fun J27 => gK v21 true (
 bK (ldO 1 false h23 v22) fun v188 =>
 J27 v188 h23) (J27 (NV.tuple []) h23)) fun J24 => gK v21 true (
 bK (fAddr 2 v2) fun v189 =>
 J24 v189 h19) (J24 (NV.tuple []) h19)) fun J20 => gK v10 true (
 mK (calM call 80 [v15, (NV.func (.func 81) [] [])] h16) fun v190 h191 =>
 J20 v190 h191) (J20 (NV.tuple []) h16)) fun J17 => gK v10 true (
 bK (ldO 1 false h13 v12) fun v192 =>
 J17 v192 h13) (J17 (NV.tuple []) h13)) fun J14 => gK v10 true (
 bK (fAddr 1 v2) fun v193 =>
 J14 v193 h11) (J14 (NV.tuple []) h11))
theorem e36 : ikB Tryz.prog 6 Tryz.f36 = S36 := by kernel_rfl
theorem k36 (w0 : World) : SOK cW w0 36 S36 := okW Tryz.func36 (by kernel_rfl) e36
noncomputable def S42 (call : CallF) (N : Nat) (l : List NV) (h : H) : R :=
 uc l fun v0 l1 => un l1 (
 mK (rngM v0 h) fun v2 h3 =>
 joinC 0 (fun h4 =>
 retC (NV.bool true) h4) fun J5 =>
 loopC N 2 (fun L9 v6 v7 h8 =>
 mK (nxtM v7 h8) fun v10 h11 =>
 bK (extO 0 v10) fun v12 =>
 condK v12 (
 bK (extO 1 v10) fun v13 =>
 bK (extO 2 v10) fun v14 =>
 bK (eqI v14 (NV.int .i32 (.ofNat 65533))) fun v15 =>
 jK (fun v16 h17 =>
 jK (fun v19 h20 =>
 jK (fun v22 h23 =>
 jK (fun v25 h26 =>
 jK (fun v28 h29 =>
 jK (fun v31 h32 =>
 jK (fun v34 h35 =>
 jK (fun v37 h38 =>
 jK (fun v40 h41 =>
 jK (fun v43 h44 =>
 jK (fun v46 h47 =>
 jK (fun v49 h50 =>
 jK (fun v52 h53 =>
 bK (pickO v15 v52 (NV.bool false)) fun v55 =>
 condK v55 (
 retC (NV.bool false) h53) (
 L9 v6 v7 h53)) fun J54 => gK v15 true (
 bK (pickO v31 (NV.bool true) v49) fun v56 =>
 J54 v56 h50) (J54 (NV.tuple []) h50)) fun J51 => gK v31 false (
 bK (binO .neq v46 (NV.str 3 12435439)) fun v57 =>
 J51 v57 h47) (J51 (NV.tuple []) h47)) fun J48 => gK v31 false (
 bK (slStr v34 (some v37) (some v43)) fun v58 =>
 J48 v58 h44) (J48 (NV.tuple []) h44)) fun J45 => gK v31 false (
 bK (addI v40 (NV.int .i64 (.ofNat 3))) fun v59 =>
 J45 v59 h41) (J45 (NV.tuple []) h41)) fun J42 => gK v31 false (
 J42 v13 h38) (J42 (NV.tuple []) h38)) fun J39 => gK v31 false (
 J39 v13 h35) (J39 (NV.tuple []) h35)) fun J36 => gK v31 false (
 J36 v6 h32) (J36 (NV.tuple []) h32)) fun J33 => gK v15 true (
 J33 v28 h29) (J33 (NV.tuple []) h29)) fun J30 => gK v15 true (
 bK (ltI v25 (NV.int .i64 (.ofNat 3))) fun v60 =>
 J30 v60 h26) (J30 (NV.tuple []) h26)) fun J27 => gK v15 true (
 bK (subI v19 v22) fun v61 =>
 J27 v61 h23) (J27 (NV.tuple []) h23)) fun J24 => gK v15 true (
 J24 v13 h20) (J24 (NV.tuple []) h20)) fun J21 => gK v15 true (
 bK (lenStr v16) fun v62 =>
 J21 v62 h17) (J21 (NV.tuple []) h17)) fun J18 => gK v15 true (
 J18 v6 h11) (J18 (NV.tuple []) h11)) (
 J5 h11)) v0 v2 h3)
theorem e42 : ikB Tryz.prog 6 Tryz.f42 = S42 := by kernel_rfl
theorem k42 (w0 : World) : SOK cW w0 42 S42 := okW Tryz.func42 (by kernel_rfl) e42
noncomputable def S43 (call : CallF) (N : Nat) (l : List NV) (h : H) : R :=
 uc l fun v0 l1 => un l1 (
 joinC 0 (fun h2 =>
 retC (NV.bool true) h2) fun J3 =>
 loopC N 1 (fun L6 v4 h5 =>
 bK (nilO v4) fun v7 =>
 bK (fAddr 1 v7) fun v8 =>
 bK (ldO 1 false h5 (chkV h5 v8)) fun v9 =>
 bK (nilO v4) fun v10 =>
 bK (fAddr 0 v10) fun v11 =>
 bK (ldO 1 false h5 (chkV h5 v11)) fun v12 =>
 bK (lenStr v12) fun v13 =>
 bK (ltI v9 v13) fun v14 =>
 condK v14 (
 bK (nilO v4) fun v15 =>
 bK (fAddr 0 v15) fun v16 =>
 bK (ldO 1 false h5 (chkV h5 v16)) fun v17 =>
 bK (nilO v4) fun v18 =>
 bK (fAddr 1 v18) fun v19 =>
 bK (ldO 1 false h5 (chkV h5 v19)) fun v20 =>
 bK (ixStr v17 v20) fun v21 =>
 mK (calM call 99 [(NV.str 4 218761504), (chkV h5 v21)] h5) fun v22 h23 =>
 nextK h5 h23 (
 bK (geI v22 (NV.int .i64 (.ofNat 0))) fun v24 =>
 condK v24 (
 bK (nilO v4) fun v25 =>
 bK (fAddr 1 v25) fun v26 =>
 bK (ldO 1 false h23 v26) fun v27 =>
 bK (addI v27 (NV.int .i64 (.ofNat 1))) fun v28 =>
 bK (nilO v4) fun v29 =>
 bK (fAddr 1 v29) fun v30 =>
 mK (stM 1 v30 v28 h23) fun v31 h32 =>
 L6 v4 h32) (
 mK (calM call 100 [v4, (NV.str 2 15163)] h23) fun v33 h34 =>
 condK v33 (
 bK (nilO v4) fun v35 =>
 bK (fAddr 0 v35) fun v36 =>
 bK (ldO 1 false h34 (chkV h34 v36)) fun v37 =>
 bK (nilO v4) fun v38 =>
 bK (fAddr 1 v38) fun v39 =>
 bK (ldO 1 false h34 (chkV h34 v39)) fun v40 =>
 bK (slStr v37 (some v40) none) fun v41 =>
 mK (calM call 99 [(chkV h34 v41), (NV.int .u8 (.ofNat 10))] h34) fun v42 h43 =>
 nextK h34 h43 (
 bK (ltI v42 (NV.int .i64 (.ofNat 0))) fun v44 =>
 joinC 2 (fun v45 v46 h47 =>
 bK (nilO v45) fun v49 =>
 bK (fAddr 1 v49) fun v50 =>
 bK (ldO 1 false h47 v50) fun v51 =>
 bK (addI v51 v46) fun v52 =>
 bK (nilO v45) fun v53 =>
 bK (fAddr 1 v53) fun v54 =>
 mK (stM 1 v54 v52 h47) fun v55 h56 =>
 L6 v45 h56) fun J48 =>
 condK v44 (
 bK (nilO v4) fun v57 =>
 bK (fAddr 0 v57) fun v58 =>
 bK (ldO 1 false h43 (chkV h43 v58)) fun v59 =>
 bK (lenStr v59) fun v60 =>
 bK (nilO v4) fun v61 =>
 bK (fAddr 1 v61) fun v62 =>
 bK (ldO 1 false h43 (chkV h43 v62)) fun v63 =>
 bK (subI v60 v63) fun v64 =>
 J48 v4 v64 h43) (
 J48 v4 v42 h43))) (
 mK (calM call 100 [v4, (NV.str 2 15144)] h34) fun v65 h66 =>
 condK v65 (
 mK (calM call 101 [v4] h66) fun v67 h68 =>
 bK (notO v67) fun v69 =>
 condK v69 (
 retC (NV.bool false) h68) (
 L6 v4 h68)) (
 J3 h66))))) (
 J3 h5)) v0 h)
theorem e43 : ikB Tryz.prog 6 Tryz.f43 = S43 := by kernel_rfl
theorem k43 (w0 : World) : SOK cW w0 43 S43 := okW Tryz.func43 (by kernel_rfl) e43
noncomputable def S44 (call : CallF) (N : Nat) (l : List NV) (h : H) : R :=
 uc l fun v0 l1 => un l1 (
 mK (alM (NB.cells [(NV.int .i64 (.ofNat 0)), (NV.str 0 0), (NV.int .i64 (.ofNat 0))]) h) fun v2 h3 =>
 bK (nilO v0) fun v4 =>
 bK (fAddr 1 v4) fun v5 =>
 bK (ldO 1 false h3 (chkV h3 v5)) fun v6 =>
 bK (nilO v0) fun v7 =>
 bK (fAddr 0 v7) fun v8 =>
 bK (ldO 1 false h3 (chkV h3 v8)) fun v9 =>
 bK (nilO v0) fun v10 =>
 bK (fAddr 1 v10) fun v11 =>
 bK (ldO 1 false h3 (chkV h3 v11)) fun v12 =>
 bK (nilO v0) fun v13 =>
 bK (fAddr 1 v13) fun v14 =>
 bK (ldO 1 false h3 (chkV h3 v14)) fun v15 =>
 bK (addI v15 (NV.int .i64 (.ofNat 1))) fun v16 =>
 bK (slStr v9 (some v12) (some v16)) fun v17 =>
 bK (bldO [(2, 1), (1, 1)] [(NV.int .i64 (.ofNat 0)), (NV.str 0 0), (NV.int .i64 (.ofNat 0))] [v6, v17]) fun v18 =>
 mK (alM (NB.cells [(NV.int .i64 (.ofNat 0)), (NV.str 0 0), (NV.int .i64 (.ofNat 0))]) h3) fun v19 h20 =>
 mK (stM 3 (chkV h20 v19) (chkV h20 v18) h20) fun v21 h22 =>
 nextK h20 h22 (
 bK (nilO v0) fun v23 =>
 bK (fAddr 0 v23) fun v24 =>
 bK (ldO 1 false h22 (chkV h22 v24)) fun v25 =>
 bK (nilO v0) fun v26 =>
 bK (fAddr 1 v26) fun v27 =>
 bK (ldO 1 false h22 (chkV h22 v27)) fun v28 =>
 bK (ixStr v25 v28) fun v29 =>
 joinC 2 (fun v30 v31 h32 =>
 bK (ldO 3 true h32 v31) fun v34 =>
 mK (stM 3 v30 v34 h32) fun v35 h36 =>
 bK (ldO 3 true h36 v30) fun v37 =>
 retC (NV.tuple [v37, (NV.bool true)]) h36) fun J33 =>
 bK (eqI v29 (NV.int .u8 (.ofNat 40))) fun v38 =>
 condK v38 (
 bK (nilO v0) fun v39 =>
 bK (fAddr 1 v39) fun v40 =>
 bK (ldO 1 false h22 v40) fun v41 =>
 bK (addI v41 (NV.int .i64 (.ofNat 1))) fun v42 =>
 bK (nilO v0) fun v43 =>
 bK (fAddr 1 v43) fun v44 =>
 mK (stM 1 v44 v42 h22) fun v45 h46 =>
 J33 v2 v19 h46) (
 bK (eqI v29 (NV.int .u8 (.ofNat 41))) fun v47 =>
 condK v47 (
 bK (fAddr 0 v19) fun v48 =>
 mK (stM 1 v48 (NV.int .i64 (.ofNat 1)) h22) fun v49 h50 =>
 bK (nilO v0) fun v51 =>
 bK (fAddr 1 v51) fun v52 =>
 bK (ldO 1 false h50 v52) fun v53 =>
 bK (addI v53 (NV.int .i64 (.ofNat 1))) fun v54 =>
 bK (nilO v0) fun v55 =>
 bK (fAddr 1 v55) fun v56 =>
 mK (stM 1 v56 v54 h50) fun v57 h58 =>
 J33 v2 v19 h58) (
 bK (eqI v29 (NV.int .u8 (.ofNat 34))) fun v59 =>
 condK v59 (
 mK (calM call 102 [v0] h22) fun v60 h61 =>
 bK (extO 0 v60) fun v62 =>
 bK (extO 1 v60) fun v63 =>
 bK (fAddr 2 v19) fun v64 =>
 bK (ldO 1 false h61 v64) fun v65 =>
 bK (bldO [(0, 1), (1, 1), (2, 1)] [(NV.int .i64 (.ofNat 0)), (NV.str 0 0), (NV.int .i64 (.ofNat 0))] [(NV.int .i64 (.ofNat 3)), v62, v65]) fun v66 =>
 mK (stM 3 v2 v66 h61) fun v67 h68 =>
 bK (ldO 3 true h68 v2) fun v69 =>
 retC (NV.tuple [v69, v63]) h68) (
 joinC 3 (fun v70 v71 v72 h73 =>
 bK (nilO v70) fun v75 =>
 bK (fAddr 0 v75) fun v76 =>
 bK (ldO 1 false h73 (chkV h73 v76)) fun v77 =>
 bK (fAddr 2 v72) fun v78 =>
 bK (ldO 1 false h73 (chkV h73 v78)) fun v79 =>
 bK (nilO v70) fun v80 =>
 bK (fAddr 1 v80) fun v81 =>
 bK (ldO 1 false h73 (chkV h73 v81)) fun v82 =>
 bK (slStr v77 (some v79) (some v82)) fun v83 =>
 bK (fAddr 2 v72) fun v84 =>
 bK (ldO 1 false h73 (chkV h73 v84)) fun v85 =>
 bK (bldO [(0, 1), (1, 1), (2, 1)] [(NV.int .i64 (.ofNat 0)), (NV.str 0 0), (NV.int .i64 (.ofNat 0))] [(NV.int .i64 (.ofNat 2)), v83, v85]) fun v86 =>
 bK (nilO v70) fun v87 =>
 bK (fAddr 1 v87) fun v88 =>
 bK (ldO 1 false h73 (chkV h73 v88)) fun v89 =>
 bK (fAddr 2 v72) fun v90 =>
 bK (ldO 1 false h73 (chkV h73 v90)) fun v91 =>
 bK (gtI v89 v91) fun v92 =>
 mK (stM 3 (chkV h73 v71) (chkV h73 v86) h73) fun v93 h94 =>
 nextK h73 h94 (
 bK (ldO 1 false h94 (chkV h94 v88)) fun v95 =>
 sameK v95 v89 (
 bK (ldO 1 false h94 (chkV h94 v90)) fun v96 =>
 sameK v96 v91 (
 bK (ldO 3 true h94 v71) fun v97 =>
 retC (NV.tuple [v97, v92]) h94)))) fun J74 =>
 loopC N 3 (fun L102 v98 v99 v100 h101 =>
 bK (nilO v98) fun v103 =>
 bK (fAddr 1 v103) fun v104 =>
 bK (ldO 1 false h101 (chkV h101 v104)) fun v105 =>
 bK (nilO v98) fun v106 =>
 bK (fAddr 0 v106) fun v107 =>
 bK (ldO 1 false h101 (chkV h101 v107)) fun v108 =>
 bK (lenStr v108) fun v109 =>
 bK (ltI v105 v109) fun v110 =>
 jK (fun v111 h112 =>
 jK (fun v114 h115 =>
 jK (fun v117 h118 =>
 jK (fun v120 h121 =>
 jK (fun v123 h124 =>
 jK (fun v126 h127 =>
 jK (fun v129 h130 =>
 jK (fun v132 h133 =>
 jK (fun v135 h136 =>
 jK (fun v138 h139 =>
 nextK h101 h139 (
 bK (pickO v110 v138 (NV.bool false)) fun v141 =>
 condK v141 (
 bK (nilO v98) fun v142 =>
 bK (fAddr 1 v142) fun v143 =>
 bK (ldO 1 false h139 v143) fun v144 =>
 bK (addI v144 (NV.int .i64 (.ofNat 1))) fun v145 =>
 bK (nilO v98) fun v146 =>
 bK (fAddr 1 v146) fun v147 =>
 mK (stM 1 v147 v145 h139) fun v148 h149 =>
 L102 v98 v99 v100 h149) (
 J74 v98 v99 v100 h139))) fun J140 => gK v110 true (
 mK (calM call 103 [(chkV h101 v135)] h101) fun v150 h151 =>
 J140 v150 h151) (J140 (NV.tuple []) h101)) fun J137 => gK v110 true (
 bK (ixStr v120 v132) fun v152 =>
 J137 v152 h101) (J137 (NV.tuple []) h101)) fun J134 => gK v110 true (
 bK (ldO 1 false h101 (chkV h101 v129)) fun v153 =>
 J134 v153 h101) (J134 (NV.tuple []) h101)) fun J131 => gK v110 true (
 bK (fAddr 1 v126) fun v154 =>
 J131 v154 h101) (J131 (NV.tuple []) h101)) fun J128 => gK v110 true (
 bK (nilO v123) fun v155 =>
 J128 v155 h101) (J128 (NV.tuple []) h101)) fun J125 => gK v110 true (
 J125 v98 h101) (J125 (NV.tuple []) h101)) fun J122 => gK v110 true (
 bK (ldO 1 false h101 (chkV h101 v117)) fun v156 =>
 J122 v156 h101) (J122 (NV.tuple []) h101)) fun J119 => gK v110 true (
 bK (fAddr 0 v114) fun v157 =>
 J119 v157 h101) (J119 (NV.tuple []) h101)) fun J116 => gK v110 true (
 bK (nilO v111) fun v158 =>
 J116 v158 h101) (J116 (NV.tuple []) h101)) fun J113 => gK v110 true (
 J113 v98 h101) (J113 (NV.tuple []) h101)) v0 v2 v19 h22)))))
theorem e44 : ikB Tryz.prog 6 Tryz.f44 = S44 := by kernel_rfl
theorem k44 (w0 : World) : SOK cW w0 44 S44 := okW Tryz.func44 (by kernel_rfl) e44
noncomputable def S45 (call : CallF) (N : Nat) (l : List NV) (h : H) : R :=
 uc l fun v0 l1 => uc l1 fun v2 l3 => uc l3 fun v4 l5 => un l5 (
 bK (binO .neq v4 (NV.str 0 0)) fun v6 =>
 joinC 2 (fun v7 v8 h9 =>
 bK (nilO v7) fun v11 =>
 bK (fAddr 18 v11) fun v12 =>
 bK (ixA 7 1 v12 v8) fun v13 =>
 bK (ldO 1 false h9 (chkV h9 v13)) fun v14 =>
 bK (addI v14 (NV.int .i64 (.ofNat 1))) fun v15 =>
 bK (nilO v7) fun v16 =>
 bK (fAddr 18 v16) fun v17 =>
 bK (ixA 7 1 v17 v8) fun v18 =>
 mK (stM 1 (chkV h9 v18) (chkV h9 v15) h9) fun v19 h20 =>
 nextK h9 h20 (
 retC (NV.tuple []) h20)) fun J10 =>
 condK v6 (
 bK (nilO v0) fun v21 =>
 bK (fAddr 11 v21) fun v22 =>
 bK (ixA 7 1 v22 v2) fun v23 =>
 bK (ldO 1 false h v23) fun v24 =>
 bK (lookO Tryz.prog 9 (NV.int .i64 (.ofNat 0)) true h v24 v4) fun v25 =>
 bK (extO 0 v25) fun v26 =>
 bK (extO 1 v25) fun v27 =>
 bK (notO v27) fun v28 =>
 mK (calM call 31 [v0, v28] h) fun v29 h30 =>
 bK (nilO v0) fun v31 =>
 bK (fAddr 11 v31) fun v32 =>
 bK (ixA 7 1 v32 v2) fun v33 =>
 bK (ldO 1 false h30 (chkV h30 v33)) fun v34 =>
 bK (nilO v0) fun v35 =>
 bK (fAddr 18 v35) fun v36 =>
 bK (ixA 7 1 v36 v2) fun v37 =>
 bK (ldO 1 false h30 (chkV h30 v37)) fun v38 =>
 mK (updM Tryz.prog 58 (chkV h30 v34) (chkV h30 v4) (chkV h30 v38) h30) fun v39 h40 =>
 nextK h30 h40 (
 J10 v0 v2 h40)) (
 J10 v0 v2 h))
theorem e45 : ikB Tryz.prog 6 Tryz.f45 = S45 := by kernel_rfl
theorem k45 (w0 : World) : SOK cW w0 45 S45 := okW Tryz.func45 (by kernel_rfl) e45
noncomputable def S46 (call : CallF) (N : Nat) (l : List NV) (h : H) : R :=
 uc l fun v0 l1 => uc l1 fun v2 l3 => un l3 (
 mK (alM (NB.cells [NV.nslice, NV.nslice]) h) fun v4 h5 =>
 mK (alM (NB.cells [NV.nslice, NV.nslice]) h5) fun v6 h7 =>
 mK (calM call 12 [v0, (NV.str 5 469786321264)] h7) fun v8 h9 =>
 bK (extO 0 v8) fun v10 =>
 bK (extO 1 v8) fun v11 =>
 joinC 5 (fun v12 v13 v14 v15 v16 h17 =>
 mK (calM call 12 [v12, (NV.str 6 128009175786866)] h17) fun v19 h20 =>
 bK (extO 0 v19) fun v21 =>
 bK (extO 1 v19) fun v22 =>
 joinC 4 (fun v23 v24 v25 v26 h27 =>
 bK (ldO 2 true h27 (chkV h27 v24)) fun v29 =>
 mK (stM 2 (chkV h27 v23) (chkV h27 v29) h27) fun v30 h31 =>
 nextK h27 h31 (
 bK (ldO 2 true h31 v23) fun v32 =>
 retC (NV.tuple [v26, v32, v25]) h31)) fun J28 =>
 loopC N 7 (fun L41 v33 v34 v35 v36 v37 v38 v39 h40 =>
 condK v39 (
 mK (calM call 104 [v38, (NV.bool false)] h40) fun v42 h43 =>
 bK (extO 0 v42) fun v44 =>
 bK (extO 1 v42) fun v45 =>
 bK (fAddr 1 v35) fun v46 =>
 bK (ldO 1 false h43 v46) fun v47 =>
 mK (appM Tryz.prog 3 v47 v44 h43) fun v48 h49 =>
 bK (fAddr 1 v35) fun v50 =>
 mK (stM 1 v50 v48 h49) fun v51 h52 =>
 mK (calM call 12 [v33, (NV.str 6 128009175786866)] h52) fun v53 h54 =>
 bK (extO 0 v53) fun v55 =>
 bK (extO 1 v53) fun v56 =>
 L41 v33 v34 v35 v36 (NV.bool true) v55 v56 h54) (
 J28 v34 v35 v36 v37 h40)) v12 v13 v14 v15 v16 v21 v22 h20) fun J18 =>
 loopC N 8 (fun L66 v57 v58 v59 v60 v61 v62 v63 v64 h65 =>
 condK v64 (
 mK (calM call 104 [v63, v58] h65) fun v67 h68 =>
 bK (extO 0 v67) fun v69 =>
 bK (extO 1 v67) fun v70 =>
 bK (fAddr 0 v60) fun v71 =>
 bK (ldO 1 false h68 v71) fun v72 =>
 mK (appM Tryz.prog 3 v72 v69 h68) fun v73 h74 =>
 mK (appM Tryz.prog 9 v61 v70 h74) fun v75 h76 =>
 bK (fAddr 0 v60) fun v77 =>
 mK (stM 1 v77 v73 h76) fun v78 h79 =>
 mK (calM call 12 [v57, (NV.str 5 469786321264)] h79) fun v80 h81 =>
 bK (extO 0 v80) fun v82 =>
 bK (extO 1 v80) fun v83 =>
 L66 v57 v58 v59 v60 v75 (NV.bool true) v82 v83 h81) (
 J18 v57 v59 v60 v61 v62 h65)) v0 v2 v4 v6 NV.nslice (NV.bool false) v10 v11 h9)
theorem e46 : ikB Tryz.prog 6 Tryz.f46 = S46 := by kernel_rfl
theorem k46 (w0 : World) : SOK cW w0 46 S46 := okW Tryz.func46 (by kernel_rfl) e46
noncomputable def S47 (call : CallF) (N : Nat) (l : List NV) (h : H) : R :=
 uc l fun v0 l1 => un l1 (
 mK (calM call 105 [v0] h) fun v2 h3 =>
 bK (nilO v0) fun v4 =>
 bK (fAddr 0 v4) fun v5 =>
 bK (ldO 1 false h3 (chkV h3 v5)) fun v6 =>
 mK (calM call 42 [(chkV h3 v2)] h3) fun v7 h8 =>
 nextK h3 h8 (
 bK (ldO 1 false h8 (chkV h8 v5)) fun v9 =>
 sameK v9 v6 (
 mK (calM call 31 [(chkV h8 v6), (chkV h8 v7)] h8) fun v10 h11 =>
 nextK h8 h11 (
 retC v2 h11))))
theorem e47 : ikB Tryz.prog 6 Tryz.f47 = S47 := by kernel_rfl
theorem k47 (w0 : World) : SOK cW w0 47 S47 := okW Tryz.func47 (by kernel_rfl) e47
noncomputable def S48 (call : CallF) (N : Nat) (l : List NV) (h : H) : R :=
 uc l fun v0 l1 => un l1 (
 mK (bslM 4 false [(0, 1), (1, 1), (2, 1), (3, 1)] [(NV.str 0 0), (NV.str 0 0), (NV.str 0 0), (NV.str 0 0)] [(NV.str 4 1668183398), (NV.str 5 435610083700), (NV.str 6 133532402673005), (NV.str 6 119165519096935)] h) fun v2 h3 =>
 mK (calM call 106 [v2, v0] h3) fun v4 h5 =>
 retC v4 h5)
theorem e48 : ikB Tryz.prog 6 Tryz.f48 = S48 := by kernel_rfl
theorem k48 (w0 : World) : SOK cW w0 48 S48 := okW Tryz.func48 (by kernel_rfl) e48
noncomputable def S49 (call : CallF) (N : Nat) (l : List NV) (h : H) : R :=
 uc l fun v0 l1 => uc l1 fun v2 l3 => un l3 (
 bK (nilO v0) fun v4 =>
 bK (fAddr 0 v4) fun v5 =>
 bK (ldO 1 false h (chkV h v5)) fun v6 =>
 mK (calM call 13 [(chkV h v0)] h) fun v7 h8 =>
 nextK h h8 (
 bK (ldO 1 false h8 (chkV h8 v5)) fun v9 =>
 sameK v9 v6 (
 mK (calM call 45 [(chkV h8 v6), (chkV h8 v2), (chkV h8 v7)] h8) fun v10 h11 =>
 nextK h8 h11 (
 joinC 2 (fun v12 v13 h14 =>
 mK (calM call 12 [v12, (NV.str 6 128034844732777)] h14) fun v16 h17 =>
 bK (extO 0 v16) fun v18 =>
 bK (extO 1 v16) fun v19 =>
 condK v19 (
 bK (nilO v12) fun v20 =>
 bK (fAddr 0 v20) fun v21 =>
 bK (ldO 1 false h17 (chkV h17 v21)) fun v22 =>
 bK (nilO v12) fun v23 =>
 bK (fAddr 0 v23) fun v24 =>
 bK (ldO 1 false h17 (chkV h17 v24)) fun v25 =>
 bK (nilO v25) fun v26 =>
 bK (fAddr 25 v26) fun v27 =>
 bK (ldO 1 false h17 (chkV h17 v27)) fun v28 =>
 bK (notO v28) fun v29 =>
 mK (calM call 31 [(chkV h17 v22), (chkV h17 v29)] h17) fun v30 h31 =>
 nextK h17 h31 (
 retC (NV.tuple []) h31)) (
 bK (nilO v12) fun v32 =>
 bK (fAddr 0 v32) fun v33 =>
 bK (ldO 1 false h17 v33) fun v34 =>
 bK (nilO v34) fun v35 =>
 bK (fAddr 25 v35) fun v36 =>
 mK (stM 1 v36 (NV.bool true) h17) fun v37 h38 =>
 bK (eqI v13 (NV.int .i64 (.ofNat 2))) fun v39 =>
 jK (fun v40 h41 =>
 jK (fun v43 h44 =>
 jK (fun v46 h47 =>
 bK (pickO v39 v46 (NV.bool false)) fun v49 =>
 joinC 2 (fun v50 v51 h52 =>
 mK (calM call 30 [v50] h52) fun v54 h55 =>
 mK (calM call 107 [v54] h55) fun v56 h57 =>
 bK (extO 0 v56) fun v58 =>
 bK (extO 1 v56) fun v59 =>
 bK (eqI v51 (NV.int .i64 (.ofNat 1))) fun v60 =>
 jK (fun v61 h62 =>
 bK (pickO v60 v61 (NV.bool false)) fun v64 =>
 condK v64 (
 bK (nilO v50) fun v65 =>
 bK (fAddr 0 v65) fun v66 =>
 bK (ldO 1 false h62 v66) fun v67 =>
 mK (calM call 45 [v67, (NV.int .i64 (.ofNat 5)), (NV.str 0 0)] h62) fun v68 h69 =>
 retC (NV.tuple []) h69) (
 retC (NV.tuple []) h62)) fun J63 => gK v60 true (
 J63 v59 h57) (J63 (NV.tuple []) h57)) fun J53 =>
 condK v49 (
 bK (nilO v12) fun v70 =>
 bK (fAddr 0 v70) fun v71 =>
 bK (ldO 1 false h47 v71) fun v72 =>
 mK (calM call 45 [v72, (NV.int .i64 (.ofNat 6)), (NV.str 0 0)] h47) fun v73 h74 =>
 J53 v12 v13 h74) (
 J53 v12 v13 h47)) fun J48 => gK v39 true (
 bK (binO .eql v43 (NV.str 4 1635017060)) fun v75 =>
 J48 v75 h44) (J48 (NV.tuple []) h44)) fun J45 => gK v39 true (
 mK (calM call 29 [v40] h41) fun v76 h77 =>
 J45 v76 h77) (J45 (NV.tuple []) h41)) fun J42 => gK v39 true (
 J42 v12 h38) (J42 (NV.tuple []) h38))) fun J15 =>
 loopC N 2 (fun L81 v78 v79 h80 =>
 mK (calM call 12 [v78, (NV.str 6 128034844735589)] h80) fun v82 h83 =>
 bK (extO 0 v82) fun v84 =>
 bK (extO 1 v82) fun v85 =>
 bK (notO v85) fun v86 =>
 condK v86 (
 J15 v78 v79 h83) (
 L81 v78 v79 h83)) v0 v2 h11))))
theorem e49 : ikB Tryz.prog 6 Tryz.f49 = S49 := by kernel_rfl
theorem k49 (w0 : World) : SOK cW w0 49 S49 := okW Tryz.func49 (by kernel_rfl) e49
noncomputable def S50 (call : CallF) (N : Nat) (l : List NV) (h : H) : R :=
 uc l fun v0 l1 => uc l1 fun v2 l3 => uc l3 fun v4 l5 => un l5 (
 mK (boxM false v2 h) fun v6 h7 =>
 bK (fAddr 2 v6) fun v8 =>
 mK (stM 1 v8 v4 h7) fun v9 h10 =>
 bK (eqI v4 (NV.int .i64 (.ofNat 0))) fun v11 =>
 joinC 2 (fun v12 v13 h14 =>
 bK (nilO v12) fun v16 =>
 bK (fAddr 0 v16) fun v17 =>
 bK (ldO 1 false h14 (chkV h14 v17)) fun v18 =>
 bK (nilO v12) fun v19 =>
 bK (fAddr 0 v19) fun v20 =>
 bK (ldO 1 false h14 (chkV h14 v20)) fun v21 =>
 bK (nilO v21) fun v22 =>
 bK (fAddr 0 v22) fun v23 =>
 bK (fAddr 1 v23) fun v24 =>
 bK (ldO 1 false h14 (chkV h14 v24)) fun v25 =>
 bK (ldO 13 true h14 (chkV h14 v13)) fun v26 =>
 mK (bslM 1 false [(0, 13)] [(NV.str 0 0), (NV.str 0 0), (NV.int .i64 (.ofNat 0)), (NV.int .i64 (.ofNat 0)), (NV.int .i64 (.ofNat 0)), (NV.int .i64 (.ofNat 0)), (NV.int .i64 (.ofNat 0)), (NV.bool false), (NV.int .i64 (.ofNat 0)), (NV.int .i64 (.ofNat 0)), (NV.bool false), (NV.int .i64 (.ofNat 0)), (NV.bool false)] [(chkV h14 v26)] h14) fun v27 h28 =>
 mK (appM Tryz.prog 80 (chkV h28 v25) (chkV h28 v27) h28) fun v29 h30 =>
 nextK h28 h30 (
 bK (nilO v18) fun v31 =>
 bK (fAddr 0 v31) fun v32 =>
 bK (fAddr 1 v32) fun v33 =>
 bK (ldO 1 false h30 (chkV h30 v17)) fun v34 =>
 sameK v34 v18 (
 mK (stM 1 (chkV h30 v33) (chkV h30 v29) h30) fun v35 h36 =>
 nextK h30 h36 (
 retC (NV.tuple []) h36)))) fun J15 =>
 condK v11 (
 mK (calM call 108 [v0, (NV.bool true)] h10) fun v37 h38 =>
 bK (extO 0 v37) fun v39 =>
 bK (extO 1 v37) fun v40 =>
 bK (extO 2 v37) fun v41 =>
 bK (fAddr 3 v6) fun v42 =>
 mK (stM 1 v42 v39 h38) fun v43 h44 =>
 J15 v0 v6 h44) (
 bK (eqI v4 (NV.int .i64 (.ofNat 1))) fun v45 =>
 condK v45 (
 mK (calM call 109 [v0] h10) fun v46 h47 =>
 bK (fAddr 4 v6) fun v48 =>
 mK (stM 4 v48 v46 h47) fun v49 h50 =>
 J15 v0 v6 h50) (
 bK (eqI v4 (NV.int .i64 (.ofNat 2))) fun v51 =>
 condK v51 (
 mK (calM call 110 [v0] h10) fun v52 h53 =>
 bK (fAddr 8 v6) fun v54 =>
 mK (stM 3 v54 v52 h53) fun v55 h56 =>
 J15 v0 v6 h56) (
 mK (calM call 111 [v0] h10) fun v57 h58 =>
 bK (fAddr 11 v6) fun v59 =>
 mK (stM 2 v59 v57 h58) fun v60 h61 =>
 J15 v0 v6 h61))))
theorem e50 : ikB Tryz.prog 6 Tryz.f50 = S50 := by kernel_rfl
theorem k50 (w0 : World) : SOK cW w0 50 S50 := okW Tryz.func50 (by kernel_rfl) e50
noncomputable def S51 (call : CallF) (N : Nat) (l : List NV) (h : H) : R :=
 uc l fun v0 l1 => uc l1 fun v2 l3 => un l3 (
 mK (calM call 112 [v0] h) fun v4 h5 =>
 mK (calM call 113 [v4, (NV.str 1 36)] h5) fun v6 h7 =>
 condK v6 (
 bK (lookO Tryz.prog 9 (NV.int .i64 (.ofNat 0)) true h7 v2 v4) fun v8 =>
 bK (extO 0 v8) fun v9 =>
 bK (extO 1 v8) fun v10 =>
 bK (nilO v0) fun v11 =>
 bK (fAddr 0 v11) fun v12 =>
 bK (ldO 1 false h7 v12) fun v13 =>
 mK (calM call 31 [v13, v10] h7) fun v14 h15 =>
 retC v9 h15) (
 bK (nilO v0) fun v16 =>
 bK (fAddr 0 v16) fun v17 =>
 bK (ldO 1 false h7 v17) fun v18 =>
 mK (calM call 114 [v18, v4, (NV.int .i64 (.ofNat 32))] h7) fun v19 h20 =>
 retC v19 h20))
theorem e51 : ikB Tryz.prog 6 Tryz.f51 = S51 := by kernel_rfl
theorem k51 (w0 : World) : SOK cW w0 51 S51 := okW Tryz.func51 (by kernel_rfl) e51
noncomputable def S52 (call : CallF) (N : Nat) (l : List NV) (h : H) : R :=
 uc l fun v0 l1 => un l1 (
 bK (bldO [(0, 1), (1, 1)] [(NV.int .i64 (.ofNat 0)), (NV.int .i64 (.ofNat 0)), (NV.int .i64 (.ofNat 0)), NV.nslice, NV.nslice] [(NV.int .i64 (.ofNat 112)), (NV.int .i64 (.ofNat 1))]) fun v2 =>
 mK (alM (NB.cells [(NV.int .i64 (.ofNat 0)), (NV.int .i64 (.ofNat 0)), (NV.int .i64 (.ofNat 0)), NV.nslice, NV.nslice]) h) fun v3 h4 =>
 mK (stM 5 v3 v2 h4) fun v5 h6 =>
 mK (calM call 12 [v0, (NV.str 5 435610083700)] h6) fun v7 h8 =>
 bK (extO 0 v7) fun v9 =>
 bK (extO 1 v7) fun v10 =>
 joinC 3 (fun v11 v12 v13 h14 =>
 bK (notO v13) fun v16 =>
 jK (fun v17 h18 =>
 jK (fun v20 h21 =>
 bK (pickO v16 v20 (NV.bool false)) fun v23 =>
 joinC 3 (fun v24 v25 v26 h27 =>
 mK (calM call 30 [v24] h27) fun v29 h30 =>
 mK (calM call 107 [v29] h30) fun v31 h32 =>
 bK (extO 0 v31) fun v33 =>
 bK (extO 1 v31) fun v34 =>
 joinC 2 (fun v35 v36 h37 =>
 bK (nilO v35) fun v39 =>
 bK (fAddr 0 v39) fun v40 =>
 bK (ldO 1 false h37 (chkV h37 v40)) fun v41 =>
 bK (nilO v35) fun v42 =>
 bK (fAddr 0 v42) fun v43 =>
 bK (ldO 1 false h37 (chkV h37 v43)) fun v44 =>
 bK (nilO v44) fun v45 =>
 bK (fAddr 0 v45) fun v46 =>
 bK (fAddr 8 v46) fun v47 =>
 bK (ldO 1 false h37 (chkV h37 v47)) fun v48 =>
 bK (ldO 5 true h37 (chkV h37 v36)) fun v49 =>
 mK (bslM 1 false [(0, 5)] [(NV.int .i64 (.ofNat 0)), (NV.int .i64 (.ofNat 0)), (NV.int .i64 (.ofNat 0)), NV.nslice, NV.nslice] [(chkV h37 v49)] h37) fun v50 h51 =>
 mK (appM Tryz.prog 105 (chkV h51 v48) (chkV h51 v50) h51) fun v52 h53 =>
 nextK h51 h53 (
 bK (nilO v41) fun v54 =>
 bK (fAddr 0 v54) fun v55 =>
 bK (fAddr 8 v55) fun v56 =>
 bK (ldO 1 false h53 (chkV h53 v40)) fun v57 =>
 sameK v57 v41 (
 mK (stM 1 (chkV h53 v56) (chkV h53 v52) h53) fun v58 h59 =>
 nextK h53 h59 (
 retC (NV.tuple []) h59)))) fun J38 =>
 condK v34 (
 mK (calM call 112 [v24] h32) fun v60 h61 =>
 mK (calM call 117 [v24] h61) fun v62 h63 =>
 bK (fAddr 0 v25) fun v64 =>
 mK (stM 1 v64 v33 h63) fun v65 h66 =>
 bK (fAddr 4 v25) fun v67 =>
 mK (stM 1 v67 v62 h66) fun v68 h69 =>
 J38 v24 v25 h69) (
 mK (calM call 115 [v24, (NV.str 4 1668183398)] h32) fun v70 h71 =>
 jK (fun v72 h73 =>
 jK (fun v75 h76 =>
 jK (fun v78 h79 =>
 jK (fun v81 h82 =>
 jK (fun v84 h85 =>
 jK (fun v87 h88 =>
 jK (fun v90 h91 =>
 bK (pickO v70 (NV.bool true) v90) fun v93 =>
 condK v93 (
 mK (calM call 118 [v24] h91) fun v94 h95 =>
 bK (fAddr 4 v25) fun v96 =>
 mK (stM 1 v96 v94 h95) fun v97 h98 =>
 J38 v24 v25 h98) (
 bK (nilO v24) fun v99 =>
 bK (fAddr 0 v99) fun v100 =>
 bK (ldO 1 false h91 v100) fun v101 =>
 mK (calM call 31 [v101, (NV.bool false)] h91) fun v102 h103 =>
 J38 v24 v25 h103)) fun J92 => gK v70 false (
 bK (pickO v81 v87 (NV.bool false)) fun v104 =>
 J92 v104 h88) (J92 (NV.tuple []) h88)) fun J89 => gK v81 true (
 bK (notO v84) fun v105 =>
 J89 v105 h85) (J89 (NV.tuple []) h85)) fun J86 => gK v81 true (
 J86 v26 h82) (J86 (NV.tuple []) h82)) fun J83 => gK v70 false (
 J83 v78 h79) (J83 (NV.tuple []) h79)) fun J80 => gK v70 false (
 bK (eqI v75 (NV.int .i64 (.ofNat 0))) fun v106 =>
 J80 v106 h76) (J80 (NV.tuple []) h76)) fun J77 => gK v70 false (
 bK (ldO 1 false h73 v72) fun v107 =>
 J77 v107 h73) (J77 (NV.tuple []) h73)) fun J74 => gK v70 false (
 bK (fAddr 1 v25) fun v108 =>
 J74 v108 h71) (J74 (NV.tuple []) h71))) fun J28 =>
 condK v23 (
 bK (fAddr 1 v12) fun v109 =>
 mK (stM 1 v109 (NV.int .i64 (.ofNat 2)) h21) fun v110 h111 =>
 J28 v11 v12 v13 h111) (
 jK (fun v112 h113 =>
 jK (fun v115 h116 =>
 jK (fun v118 h119 =>
 jK (fun v121 h122 =>
 jK (fun v124 h125 =>
 jK (fun v127 h128 =>
 jK (fun v130 h131 =>
 jK (fun v133 h134 =>
 jK (fun v136 h137 =>
 jK (fun v139 h140 =>
 jK (fun v142 h143 =>
 jK (fun v145 h146 =>
 jK (fun v148 h149 =>
 jK (fun v151 h152 =>
 jK (fun v154 h155 =>
 jK (fun v157 h158 =>
 bK (pickO v13 (NV.bool true) v157) fun v160 =>
 condK v160 (
 mK (calM call 116 [v11, (NV.str 6 127979076609647)] h158) fun v161 h162 =>
 bK (fAddr 1 v12) fun v163 =>
 mK (stM 1 v163 (NV.int .i64 (.ofNat 0)) h162) fun v164 h165 =>
 bK (fAddr 3 v12) fun v166 =>
 mK (stM 1 v166 v161 h165) fun v167 h168 =>
 J28 v11 v12 v13 h168) (
 J28 v11 v12 v13 h158)) fun J159 => gK v13 false (
 bK (pickO v130 v154 (NV.bool false)) fun v169 =>
 J159 v169 h155) (J159 (NV.tuple []) h155)) fun J156 => gK v130 true (
 bK (eqI v151 (NV.int .i64 (.ofNat 4))) fun v170 =>
 J156 v170 h152) (J156 (NV.tuple []) h152)) fun J153 => gK v130 true (
 bK (ldO 1 false h149 v148) fun v171 =>
 J153 v171 h149) (J153 (NV.tuple []) h149)) fun J150 => gK v130 true (
 bK (fAddr 0 v145) fun v172 =>
 J150 v172 h146) (J150 (NV.tuple []) h146)) fun J147 => gK v130 true (
 bK (ixS 3 v142 (NV.int .i64 (.ofNat 0))) fun v173 =>
 J147 v173 h143) (J147 (NV.tuple []) h143)) fun J144 => gK v130 true (
 bK (ldO 1 false h140 v139) fun v174 =>
 J144 v174 h140) (J144 (NV.tuple []) h140)) fun J141 => gK v130 true (
 bK (fAddr 1 v136) fun v175 =>
 J141 v175 h137) (J141 (NV.tuple []) h137)) fun J138 => gK v130 true (
 bK (nilO v133) fun v176 =>
 J138 v176 h134) (J138 (NV.tuple []) h134)) fun J135 => gK v130 true (
 J135 v11 h131) (J135 (NV.tuple []) h131)) fun J132 => gK v13 false (
 J132 v127 h128) (J132 (NV.tuple []) h128)) fun J129 => gK v13 false (
 bK (gtI v124 (NV.int .i64 (.ofNat 0))) fun v177 =>
 J129 v177 h125) (J129 (NV.tuple []) h125)) fun J126 => gK v13 false (
 bK (lenSl v121) fun v178 =>
 J126 v178 h122) (J126 (NV.tuple []) h122)) fun J123 => gK v13 false (
 bK (ldO 1 false h119 v118) fun v179 =>
 J123 v179 h119) (J123 (NV.tuple []) h119)) fun J120 => gK v13 false (
 bK (fAddr 1 v115) fun v180 =>
 J120 v180 h116) (J120 (NV.tuple []) h116)) fun J117 => gK v13 false (
 bK (nilO v112) fun v181 =>
 J117 v181 h113) (J117 (NV.tuple []) h113)) fun J114 => gK v13 false (
 J114 v11 h21) (J114 (NV.tuple []) h21))) fun J22 => gK v16 true (
 mK (calM call 115 [v17, (NV.str 7 28554735403623780)] h18) fun v182 h183 =>
 J22 v182 h183) (J22 (NV.tuple []) h18)) fun J19 => gK v16 true (
 J19 v11 h14) (J19 (NV.tuple []) h14)) fun J15 =>
 condK v10 (
 bK (nilO v0) fun v184 =>
 bK (fAddr 0 v184) fun v185 =>
 bK (ldO 1 false h8 v185) fun v186 =>
 bK (nilO v186) fun v187 =>
 bK (fAddr 11 v187) fun v188 =>
 bK (ixA 7 1 v188 (NV.int .i64 (.ofNat 1))) fun v189 =>
 bK (ldO 1 false h8 v189) fun v190 =>
 mK (calM call 51 [v9, v190] h8) fun v191 h192 =>
 bK (fAddr 2 v3) fun v193 =>
 mK (stM 1 v193 v191 h192) fun v194 h195 =>
 mK (calM call 34 [v9] h195) fun v196 h197 =>
 J15 v0 v3 v10 h197) (
 J15 v0 v3 v10 h8))
theorem e52 : ikB Tryz.prog 6 Tryz.f52 = S52 := by kernel_rfl
theorem k52 (w0 : World) : SOK cW w0 52 S52 := okW Tryz.func52 (by kernel_rfl) e52
noncomputable def S53 (call : CallF) (N : Nat) (l : List NV) (h : H) : R :=
 uc l fun v0 l1 => un l1 (
 bK (bldO [(0, 1)] [(NV.int .i64 (.ofNat 0)), (NV.int .i64 (.ofNat 0)), NV.nslice, NV.nslice] [(NV.int .i64 (.ofNat 1))]) fun v2 =>
 mK (alM (NB.cells [(NV.int .i64 (.ofNat 0)), (NV.int .i64 (.ofNat 0)), NV.nslice, NV.nslice]) h) fun v3 h4 =>
 mK (stM 4 v3 v2 h4) fun v5 h6 =>
 mK (calM call 12 [v0, (NV.str 6 133532402673005)] h6) fun v7 h8 =>
 bK (extO 0 v7) fun v9 =>
 bK (extO 1 v7) fun v10 =>
 joinC 3 (fun v11 v12 v13 h14 =>
 jK (fun v16 h17 =>
 jK (fun v19 h20 =>
 jK (fun v22 h23 =>
 jK (fun v25 h26 =>
 jK (fun v28 h29 =>
 jK (fun v31 h32 =>
 jK (fun v34 h35 =>
 jK (fun v37 h38 =>
 jK (fun v40 h41 =>
 jK (fun v43 h44 =>
 jK (fun v46 h47 =>
 jK (fun v49 h50 =>
 jK (fun v52 h53 =>
 jK (fun v55 h56 =>
 jK (fun v58 h59 =>
 jK (fun v61 h62 =>
 bK (pickO v13 (NV.bool true) v61) fun v64 =>
 joinC 2 (fun v65 v66 h67 =>
 mK (calM call 119 [v65] h67) fun v69 h70 =>
 bK (fAddr 3 v66) fun v71 =>
 mK (stM 1 v71 v69 h70) fun v72 h73 =>
 bK (nilO v65) fun v74 =>
 bK (fAddr 0 v74) fun v75 =>
 bK (ldO 1 false h73 (chkV h73 v75)) fun v76 =>
 bK (nilO v65) fun v77 =>
 bK (fAddr 0 v77) fun v78 =>
 bK (ldO 1 false h73 (chkV h73 v78)) fun v79 =>
 bK (nilO v79) fun v80 =>
 bK (fAddr 0 v80) fun v81 =>
 bK (fAddr 9 v81) fun v82 =>
 bK (ldO 1 false h73 (chkV h73 v82)) fun v83 =>
 bK (ldO 4 true h73 (chkV h73 v66)) fun v84 =>
 mK (bslM 1 false [(0, 4)] [(NV.int .i64 (.ofNat 0)), (NV.int .i64 (.ofNat 0)), NV.nslice, NV.nslice] [(chkV h73 v84)] h73) fun v85 h86 =>
 mK (appM Tryz.prog 109 (chkV h86 v83) (chkV h86 v85) h86) fun v87 h88 =>
 nextK h86 h88 (
 bK (nilO v76) fun v89 =>
 bK (fAddr 0 v89) fun v90 =>
 bK (fAddr 9 v90) fun v91 =>
 bK (ldO 1 false h88 (chkV h88 v75)) fun v92 =>
 sameK v92 v76 (
 mK (stM 1 (chkV h88 v91) (chkV h88 v87) h88) fun v93 h94 =>
 nextK h88 h94 (
 retC (NV.tuple []) h94)))) fun J68 =>
 condK v64 (
 mK (calM call 116 [v11, (NV.str 6 127979076609647)] h62) fun v95 h96 =>
 bK (fAddr 0 v12) fun v97 =>
 mK (stM 1 v97 (NV.int .i64 (.ofNat 0)) h96) fun v98 h99 =>
 bK (fAddr 2 v12) fun v100 =>
 mK (stM 1 v100 v95 h99) fun v101 h102 =>
 J68 v11 v12 h102) (
 J68 v11 v12 h62)) fun J63 => gK v13 false (
 bK (pickO v34 v58 (NV.bool false)) fun v103 =>
 J63 v103 h59) (J63 (NV.tuple []) h59)) fun J60 => gK v34 true (
 bK (eqI v55 (NV.int .i64 (.ofNat 4))) fun v104 =>
 J60 v104 h56) (J60 (NV.tuple []) h56)) fun J57 => gK v34 true (
 bK (ldO 1 false h53 v52) fun v105 =>
 J57 v105 h53) (J57 (NV.tuple []) h53)) fun J54 => gK v34 true (
 bK (fAddr 0 v49) fun v106 =>
 J54 v106 h50) (J54 (NV.tuple []) h50)) fun J51 => gK v34 true (
 bK (ixS 3 v46 (NV.int .i64 (.ofNat 0))) fun v107 =>
 J51 v107 h47) (J51 (NV.tuple []) h47)) fun J48 => gK v34 true (
 bK (ldO 1 false h44 v43) fun v108 =>
 J48 v108 h44) (J48 (NV.tuple []) h44)) fun J45 => gK v34 true (
 bK (fAddr 1 v40) fun v109 =>
 J45 v109 h41) (J45 (NV.tuple []) h41)) fun J42 => gK v34 true (
 bK (nilO v37) fun v110 =>
 J42 v110 h38) (J42 (NV.tuple []) h38)) fun J39 => gK v34 true (
 J39 v11 h35) (J39 (NV.tuple []) h35)) fun J36 => gK v13 false (
 J36 v31 h32) (J36 (NV.tuple []) h32)) fun J33 => gK v13 false (
 bK (gtI v28 (NV.int .i64 (.ofNat 0))) fun v111 =>
 J33 v111 h29) (J33 (NV.tuple []) h29)) fun J30 => gK v13 false (
 bK (lenSl v25) fun v112 =>
 J30 v112 h26) (J30 (NV.tuple []) h26)) fun J27 => gK v13 false (
 bK (ldO 1 false h23 v22) fun v113 =>
 J27 v113 h23) (J27 (NV.tuple []) h23)) fun J24 => gK v13 false (
 bK (fAddr 1 v19) fun v114 =>
 J24 v114 h20) (J24 (NV.tuple []) h20)) fun J21 => gK v13 false (
 bK (nilO v16) fun v115 =>
 J21 v115 h17) (J21 (NV.tuple []) h17)) fun J18 => gK v13 false (
 J18 v11 h14) (J18 (NV.tuple []) h14)) fun J15 =>
 condK v10 (
 bK (nilO v0) fun v116 =>
 bK (fAddr 0 v116) fun v117 =>
 bK (ldO 1 false h8 v117) fun v118 =>
 bK (nilO v118) fun v119 =>
 bK (fAddr 11 v119) fun v120 =>
 bK (ixA 7 1 v120 (NV.int .i64 (.ofNat 2))) fun v121 =>
 bK (ldO 1 false h8 v121) fun v122 =>
 mK (calM call 51 [v9, v122] h8) fun v123 h124 =>
 bK (fAddr 1 v3) fun v125 =>
 mK (stM 1 v125 v123 h124) fun v126 h127 =>
 mK (calM call 34 [v9] h127) fun v128 h129 =>
 J15 v0 v3 v10 h129) (
 J15 v0 v3 v10 h8))
theorem e53 : ikB Tryz.prog 6 Tryz.f53 = S53 := by kernel_rfl
theorem k53 (w0 : World) : SOK cW w0 53 S53 := okW Tryz.func53 (by kernel_rfl) e53
noncomputable def S54 (call : CallF) (N : Nat) (l : List NV) (h : H) : R :=
 uc l fun v0 l1 => uc l1 fun v2 l3 => un l3 (
 bK (nilO v0) fun v4 =>
 bK (fAddr 0 v4) fun v5 =>
 bK (ldO 1 false h v5) fun v6 =>
 mK (calM call 120 [v6, v2] h) fun v7 h8 =>
 mK (calM call 12 [v0, (NV.str 6 128034844735589)] h8) fun v9 h10 =>
 bK (extO 0 v9) fun v11 =>
 bK (extO 1 v9) fun v12 =>
 joinC 3 (fun v13 v14 v15 h16 =>
 mK (calM call 12 [v13, (NV.str 6 128034844732777)] h16) fun v18 h19 =>
 bK (extO 0 v18) fun v20 =>
 bK (extO 1 v18) fun v21 =>
 condK v21 (
 mK (calM call 47 [v20] h19) fun v22 h23 =>
 bK (bldO [(0, 1)] [(NV.str 0 0), (NV.str 0 0), (NV.int .i64 (.ofNat 0)), (NV.int .i64 (.ofNat 0)), (NV.int .i64 (.ofNat 0)), (NV.int .i64 (.ofNat 0)), (NV.int .i64 (.ofNat 0)), (NV.bool false), (NV.int .i64 (.ofNat 0)), (NV.int .i64 (.ofNat 0)), (NV.bool false), (NV.int .i64 (.ofNat 0)), (NV.bool false)] [v22]) fun v24 =>
 mK (alM (NB.cells [(NV.str 0 0), (NV.str 0 0), (NV.int .i64 (.ofNat 0)), (NV.int .i64 (.ofNat 0)), (NV.int .i64 (.ofNat 0)), (NV.int .i64 (.ofNat 0)), (NV.int .i64 (.ofNat 0)), (NV.bool false), (NV.int .i64 (.ofNat 0)), (NV.int .i64 (.ofNat 0)), (NV.bool false), (NV.int .i64 (.ofNat 0)), (NV.bool false)]) h23) fun v25 h26 =>
 mK (stM 13 v25 v24 h26) fun v27 h28 =>
 mK (calM call 47 [v20] h28) fun v29 h30 =>
 bK (fAddr 1 v25) fun v31 =>
 mK (stM 1 v31 v29 h30) fun v32 h33 =>
 mK (calM call 34 [v20] h33) fun v34 h35 =>
 bK (ldO 13 true h35 v25) fun v36 =>
 mK (calM call 50 [v13, v36, v14] h35) fun v37 h38 =>
 retC (NV.tuple []) h38) (
 bK (eqI v14 (NV.int .i64 (.ofNat 0))) fun v39 =>
 condK v39 (
 mK (calM call 121 [v13] h19) fun v40 h41 =>
 retC (NV.tuple []) h41) (
 bK (eqI v14 (NV.int .i64 (.ofNat 1))) fun v42 =>
 condK v42 (
 mK (calM call 30 [v13] h19) fun v43 h44 =>
 mK (calM call 107 [v43] h44) fun v45 h46 =>
 bK (extO 0 v45) fun v47 =>
 bK (extO 1 v45) fun v48 =>
 condK v48 (
 mK (calM call 122 [v13, v15] h46) fun v49 h50 =>
 retC (NV.tuple []) h50) (
 bK (nilO v13) fun v51 =>
 bK (fAddr 0 v51) fun v52 =>
 bK (ldO 1 false h46 (chkV h46 v52)) fun v53 =>
 bK (nilO v13) fun v54 =>
 bK (fAddr 0 v54) fun v55 =>
 bK (ldO 1 false h46 (chkV h46 v55)) fun v56 =>
 bK (nilO v56) fun v57 =>
 bK (fAddr 0 v57) fun v58 =>
 bK (fAddr 3 v58) fun v59 =>
 bK (ldO 1 false h46 (chkV h46 v59)) fun v60 =>
 mK (calM call 109 [(chkV h46 v13)] h46) fun v61 h62 =>
 nextK h46 h62 (
 bK (ldO 1 false h62 (chkV h62 v52)) fun v63 =>
 sameK v63 v53 (
 bK (ldO 1 false h62 (chkV h62 v55)) fun v64 =>
 sameK v64 v56 (
 bK (ldO 1 false h62 (chkV h62 v59)) fun v65 =>
 sameK v65 v60 (
 mK (bslM 1 false [(0, 4)] [(NV.int .i64 (.ofNat 0)), (NV.int .i64 (.ofNat 0)), (NV.int .i64 (.ofNat 0)), (NV.bool false)] [(chkV h62 v61)] h62) fun v66 h67 =>
 mK (appM Tryz.prog 76 (chkV h67 v60) (chkV h67 v66) h67) fun v68 h69 =>
 nextK h67 h69 (
 bK (nilO v53) fun v70 =>
 bK (fAddr 0 v70) fun v71 =>
 bK (fAddr 3 v71) fun v72 =>
 bK (ldO 1 false h69 (chkV h69 v52)) fun v73 =>
 sameK v73 v53 (
 mK (stM 1 (chkV h69 v72) (chkV h69 v68) h69) fun v74 h75 =>
 nextK h69 h75 (
 retC (NV.tuple []) h75))))))))) (
 bK (eqI v14 (NV.int .i64 (.ofNat 2))) fun v76 =>
 condK v76 (
 mK (calM call 12 [v13, (NV.str 4 1635017060)] h19) fun v77 h78 =>
 bK (extO 0 v77) fun v79 =>
 bK (extO 1 v77) fun v80 =>
 condK v80 (
 mK (calM call 119 [v79] h78) fun v81 h82 =>
 bK (lenSl v81) fun v83 =>
 bK (addI v83 (NV.int .i64 (.ofNat 65536))) fun v84 =>
 bK (subI v84 (NV.int .i64 (.ofNat 1))) fun v85 =>
 bK (binO .quo v85 (NV.int .i64 (.ofNat 65536))) fun v86 =>
 bK (nilO v13) fun v87 =>
 bK (fAddr 0 v87) fun v88 =>
 bK (ldO 1 false h82 (chkV h82 v88)) fun v89 =>
 bK (nilO v13) fun v90 =>
 bK (fAddr 0 v90) fun v91 =>
 bK (ldO 1 false h82 (chkV h82 v91)) fun v92 =>
 bK (nilO v92) fun v93 =>
 bK (fAddr 0 v93) fun v94 =>
 bK (fAddr 4 v94) fun v95 =>
 bK (ldO 1 false h82 (chkV h82 v95)) fun v96 =>
 bK (bldO [(0, 1), (1, 1), (2, 1)] [(NV.int .i64 (.ofNat 0)), (NV.int .i64 (.ofNat 0)), (NV.bool false)] [v86, v86, (NV.bool true)]) fun v97 =>
 mK (bslM 1 false [(0, 3)] [(NV.int .i64 (.ofNat 0)), (NV.int .i64 (.ofNat 0)), (NV.bool false)] [(chkV h82 v97)] h82) fun v98 h99 =>
 mK (appM Tryz.prog 74 (chkV h99 v96) (chkV h99 v98) h99) fun v100 h101 =>
 nextK h99 h101 (
 bK (nilO v89) fun v102 =>
 bK (fAddr 0 v102) fun v103 =>
 bK (fAddr 4 v103) fun v104 =>
 bK (ldO 1 false h101 (chkV h101 v88)) fun v105 =>
 sameK v105 v89 (
 mK (stM 1 (chkV h101 v104) (chkV h101 v100) h101) fun v106 h107 =>
 nextK h101 h107 (
 bK (nilO v13) fun v108 =>
 bK (fAddr 0 v108) fun v109 =>
 bK (ldO 1 false h107 (chkV h107 v109)) fun v110 =>
 bK (nilO v13) fun v111 =>
 bK (fAddr 0 v111) fun v112 =>
 bK (ldO 1 false h107 (chkV h107 v112)) fun v113 =>
 bK (nilO v113) fun v114 =>
 bK (fAddr 0 v114) fun v115 =>
 bK (fAddr 9 v115) fun v116 =>
 bK (ldO 1 false h107 (chkV h107 v116)) fun v117 =>
 bK (bldO [(0, 1)] [(NV.int .i64 (.ofNat 0)), (NV.int .i64 (.ofNat 0)), (NV.int .i64 (.ofNat 0)), (NV.int .u64 (.ofNat 0)), (NV.int .u64 (.ofNat 0)), NV.nslice, NV.nslice, NV.nslice, (NV.bool false)] [(NV.int .i64 (.ofNat 65))]) fun v118 =>
 mK (bslM 1 false [(0, 9)] [(NV.int .i64 (.ofNat 0)), (NV.int .i64 (.ofNat 0)), (NV.int .i64 (.ofNat 0)), (NV.int .u64 (.ofNat 0)), (NV.int .u64 (.ofNat 0)), NV.nslice, NV.nslice, NV.nslice, (NV.bool false)] [(chkV h107 v118)] h107) fun v119 h120 =>
 bK (bldO [(1, 1), (2, 1), (3, 1)] [(NV.int .i64 (.ofNat 0)), (NV.int .i64 (.ofNat 0)), NV.nslice, NV.nslice] [v15, v119, v81]) fun v121 =>
 mK (bslM 1 false [(0, 4)] [(NV.int .i64 (.ofNat 0)), (NV.int .i64 (.ofNat 0)), NV.nslice, NV.nslice] [(chkV h120 v121)] h120) fun v122 h123 =>
 mK (appM Tryz.prog 109 (chkV h123 v117) (chkV h123 v122) h123) fun v124 h125 =>
 nextK h123 h125 (
 bK (nilO v110) fun v126 =>
 bK (fAddr 0 v126) fun v127 =>
 bK (fAddr 9 v127) fun v128 =>
 bK (ldO 1 false h125 (chkV h125 v109)) fun v129 =>
 sameK v129 v110 (
 mK (stM 1 (chkV h125 v128) (chkV h125 v124) h125) fun v130 h131 =>
 nextK h125 h131 (
 retC (NV.tuple []) h131))))))) (
 bK (nilO v13) fun v132 =>
 bK (fAddr 0 v132) fun v133 =>
 bK (ldO 1 false h78 (chkV h78 v133)) fun v134 =>
 bK (nilO v13) fun v135 =>
 bK (fAddr 0 v135) fun v136 =>
 bK (ldO 1 false h78 (chkV h78 v136)) fun v137 =>
 bK (nilO v137) fun v138 =>
 bK (fAddr 0 v138) fun v139 =>
 bK (fAddr 4 v139) fun v140 =>
 bK (ldO 1 false h78 (chkV h78 v140)) fun v141 =>
 mK (calM call 110 [(chkV h78 v13)] h78) fun v142 h143 =>
 nextK h78 h143 (
 bK (ldO 1 false h143 (chkV h143 v133)) fun v144 =>
 sameK v144 v134 (
 bK (ldO 1 false h143 (chkV h143 v136)) fun v145 =>
 sameK v145 v137 (
 bK (ldO 1 false h143 (chkV h143 v140)) fun v146 =>
 sameK v146 v141 (
 mK (bslM 1 false [(0, 3)] [(NV.int .i64 (.ofNat 0)), (NV.int .i64 (.ofNat 0)), (NV.bool false)] [(chkV h143 v142)] h143) fun v147 h148 =>
 mK (appM Tryz.prog 74 (chkV h148 v141) (chkV h148 v147) h148) fun v149 h150 =>
 nextK h148 h150 (
 bK (nilO v134) fun v151 =>
 bK (fAddr 0 v151) fun v152 =>
 bK (fAddr 4 v152) fun v153 =>
 bK (ldO 1 false h150 (chkV h150 v133)) fun v154 =>
 sameK v154 v134 (
 mK (stM 1 (chkV h150 v153) (chkV h150 v149) h150) fun v155 h156 =>
 nextK h150 h156 (
 retC (NV.tuple []) h156))))))))) (
 mK (calM call 111 [v13] h19) fun v157 h158 =>
 mK (alM (NB.cells [(NV.int .i64 (.ofNat 0)), (NV.bool false)]) h158) fun v159 h160 =>
 mK (stM 2 v159 v157 h160) fun v161 h162 =>
 bK (bldO [(0, 1)] [NV.nilptr, NV.nmap, NV.nslice] [v13]) fun v163 =>
 mK (boxM false v163 h162) fun v164 h165 =>
 bK (nilO v13) fun v166 =>
 bK (fAddr 0 v166) fun v167 =>
 bK (ldO 1 false h165 (chkV h165 v167)) fun v168 =>
 bK (nilO v13) fun v169 =>
 bK (fAddr 0 v169) fun v170 =>
 bK (ldO 1 false h165 (chkV h165 v170)) fun v171 =>
 bK (nilO v171) fun v172 =>
 bK (fAddr 0 v172) fun v173 =>
 bK (fAddr 5 v173) fun v174 =>
 bK (ldO 1 false h165 (chkV h165 v174)) fun v175 =>
 bK (ldO 2 true h165 (chkV h165 v159)) fun v176 =>
 mK (calM call 123 [(chkV h165 v164), (chkV h165 v13)] h165) fun v177 h178 =>
 nextK h165 h178 (
 bK (bldO [(0, 2), (2, 1)] [(NV.int .i64 (.ofNat 0)), (NV.bool false), NV.nslice] [v176, v177]) fun v179 =>
 bK (ldO 1 false h178 (chkV h178 v167)) fun v180 =>
 sameK v180 v168 (
 bK (ldO 1 false h178 (chkV h178 v170)) fun v181 =>
 sameK v181 v171 (
 bK (ldO 1 false h178 (chkV h178 v174)) fun v182 =>
 sameK v182 v175 (
 bK (ldO 2 true h178 (chkV h178 v159)) fun v183 =>
 sameK v183 v176 (
 mK (bslM 1 false [(0, 3)] [(NV.int .i64 (.ofNat 0)), (NV.bool false), NV.nslice] [(chkV h178 v179)] h178) fun v184 h185 =>
 mK (appM Tryz.prog 86 (chkV h185 v175) (chkV h185 v184) h185) fun v186 h187 =>
 nextK h185 h187 (
 bK (nilO v168) fun v188 =>
 bK (fAddr 0 v188) fun v189 =>
 bK (fAddr 5 v189) fun v190 =>
 bK (ldO 1 false h187 (chkV h187 v167)) fun v191 =>
 sameK v191 v168 (
 mK (stM 1 (chkV h187 v190) (chkV h187 v186) h187) fun v192 h193 =>
 nextK h187 h193 (
 retC (NV.tuple []) h193))))))))))))) fun J17 =>
 loopC N 5 (fun L200 v194 v195 v196 v197 v198 h199 =>
 condK v198 (
 bK (nilO v194) fun v201 =>
 bK (fAddr 0 v201) fun v202 =>
 bK (ldO 1 false h199 (chkV h199 v202)) fun v203 =>
 bK (nilO v194) fun v204 =>
 bK (fAddr 0 v204) fun v205 =>
 bK (ldO 1 false h199 (chkV h199 v205)) fun v206 =>
 bK (nilO v206) fun v207 =>
 bK (fAddr 0 v207) fun v208 =>
 bK (fAddr 6 v208) fun v209 =>
 bK (ldO 1 false h199 (chkV h199 v209)) fun v210 =>
 mK (calM call 47 [(chkV h199 v197)] h199) fun v211 h212 =>
 nextK h199 h212 (
 bK (bldO [(0, 1), (1, 1), (2, 1)] [(NV.str 0 0), (NV.int .i64 (.ofNat 0)), (NV.int .i64 (.ofNat 0))] [v211, v195, v196]) fun v213 =>
 bK (ldO 1 false h212 (chkV h212 v202)) fun v214 =>
 sameK v214 v203 (
 bK (ldO 1 false h212 (chkV h212 v205)) fun v215 =>
 sameK v215 v206 (
 bK (ldO 1 false h212 (chkV h212 v209)) fun v216 =>
 sameK v216 v210 (
 mK (bslM 1 false [(0, 3)] [(NV.str 0 0), (NV.int .i64 (.ofNat 0)), (NV.int .i64 (.ofNat 0))] [(chkV h212 v213)] h212) fun v217 h218 =>
 mK (appM Tryz.prog 51 (chkV h218 v210) (chkV h218 v217) h218) fun v219 h220 =>
 nextK h218 h220 (
 bK (nilO v203) fun v221 =>
 bK (fAddr 0 v221) fun v222 =>
 bK (fAddr 6 v222) fun v223 =>
 bK (ldO 1 false h220 (chkV h220 v202)) fun v224 =>
 sameK v224 v203 (
 mK (stM 1 (chkV h220 v223) (chkV h220 v219) h220) fun v225 h226 =>
 nextK h220 h226 (
 mK (calM call 34 [v197] h226) fun v227 h228 =>
 mK (calM call 12 [v194, (NV.str 6 128034844735589)] h228) fun v229 h230 =>
 bK (extO 0 v229) fun v231 =>
 bK (extO 1 v229) fun v232 =>
 L200 v194 v195 v196 v231 v232 h230)))))))) (
 J17 v194 v195 v196 h199)) v0 v2 v7 v11 v12 h10)
theorem e54 : ikB Tryz.prog 6 Tryz.f54 = S54 := by kernel_rfl
theorem k54 (w0 : World) : SOK cW w0 54 S54 := okW Tryz.func54 (by kernel_rfl) e54
noncomputable def S55 (call : CallF) (N : Nat) (l : List NV) (h : H) : R :=
 uc l fun v0 l1 => un l1 (
 mK (calM call 56 [v0] h) fun v2 h3 =>
 bK (gtI v2 (NV.int .i64 (.ofNat 500))) fun v4 =>
 retC v4 h3)
theorem e55 : ikB Tryz.prog 6 Tryz.f55 = S55 := by kernel_rfl
theorem k55 (w0 : World) : SOK cW w0 55 S55 := okW Tryz.func55 (by kernel_rfl) e55
noncomputable def S58 (call : CallF) (N : Nat) (l : List NV) (h : H) : R :=
 uc l fun v0 l1 => uc l1 fun v2 l3 => un l3 (
 mK (boxM false v0 h) fun v4 h5 =>
 bK (ldO 1 false h5 v2) fun v6 =>
 bK (fAddr 2 v4) fun v7 =>
 bK (ldO 1 false h5 v7) fun v8 =>
 mK (calV call v6 [v8] h5) fun v9 h10 =>
 retC v9 h10)
theorem e58 : ikB Tryz.prog 6 Tryz.f58 = S58 := by kernel_rfl
theorem k58 (w0 : World) : SOK cW w0 58 S58 := okW Tryz.func58 (by kernel_rfl) e58
noncomputable def S57 (call : CallF) (N : Nat) (l : List NV) (h : H) : R :=
 uc l fun v0 l1 => uc l1 fun v2 l3 => un l3 (
 mK (calM call 124 [v0, v2] h) fun v4 h5 =>
 bK (geI v4 (NV.int .i64 (.ofNat 0))) fun v6 =>
 retC v6 h5)
theorem e57 : ikB Tryz.prog 6 Tryz.f57 = S57 := by kernel_rfl
theorem k57 (w0 : World) : SOK cW w0 57 S57 := okW Tryz.func57 (by kernel_rfl) e57
noncomputable def S60 (call : CallF) (N : Nat) (l : List NV) (h : H) : R :=
 uc l fun v0 l1 => uc l1 fun v2 l3 => un l3 (
 mK (boxM false v0 h) fun v4 h5 =>
 bK (ldO 1 false h5 v2) fun v6 =>
 bK (fAddr 2 v4) fun v7 =>
 bK (ldO 1 false h5 v7) fun v8 =>
 mK (calV call v6 [v8] h5) fun v9 h10 =>
 retC v9 h10)
theorem e60 : ikB Tryz.prog 6 Tryz.f60 = S60 := by kernel_rfl
theorem k60 (w0 : World) : SOK cW w0 60 S60 := okW Tryz.func60 (by kernel_rfl) e60
noncomputable def S59 (call : CallF) (N : Nat) (l : List NV) (h : H) : R :=
 uc l fun v0 l1 => uc l1 fun v2 l3 => un l3 (
 mK (calM call 125 [v0, v2] h) fun v4 h5 =>
 bK (geI v4 (NV.int .i64 (.ofNat 0))) fun v6 =>
 retC v6 h5)
theorem e59 : ikB Tryz.prog 6 Tryz.f59 = S59 := by kernel_rfl
theorem k59 (w0 : World) : SOK cW w0 59 S59 := okW Tryz.func59 (by kernel_rfl) e59
noncomputable def S62 (call : CallF) (N : Nat) (l : List NV) (h : H) : R :=
 uc l fun v0 l1 => uc l1 fun v2 l3 => un l3 (
 mK (boxM false v0 h) fun v4 h5 =>
 bK (ldO 1 false h5 v2) fun v6 =>
 bK (fAddr 3 v4) fun v7 =>
 bK (ldO 1 false h5 v7) fun v8 =>
 mK (calV call v6 [v8] h5) fun v9 h10 =>
 jK (fun v11 h12 =>
 jK (fun v14 h15 =>
 jK (fun v17 h18 =>
 jK (fun v20 h21 =>
 bK (pickO v9 (NV.bool true) v20) fun v23 =>
 retC v23 h21) fun J22 => gK v9 false (
 mK (calM call 63 [v14, v17] h18) fun v24 h25 =>
 J22 v24 h25) (J22 (NV.tuple []) h18)) fun J19 => gK v9 false (
 bK (ldO 1 false h15 v2) fun v26 =>
 J19 v26 h15) (J19 (NV.tuple []) h15)) fun J16 => gK v9 false (
 bK (ldO 1 false h12 v11) fun v27 =>
 J16 v27 h12) (J16 (NV.tuple []) h12)) fun J13 => gK v9 false (
 bK (fAddr 4 v4) fun v28 =>
 J13 v28 h10) (J13 (NV.tuple []) h10))
theorem e62 : ikB Tryz.prog 6 Tryz.f62 = S62 := by kernel_rfl
theorem k62 (w0 : World) : SOK cW w0 62 S62 := okW Tryz.func62 (by kernel_rfl) e62
noncomputable def S61 (call : CallF) (N : Nat) (l : List NV) (h : H) : R :=
 uc l fun v0 l1 => uc l1 fun v2 l3 => un l3 (
 mK (calM call 126 [v0, v2] h) fun v4 h5 =>
 bK (geI v4 (NV.int .i64 (.ofNat 0))) fun v6 =>
 retC v6 h5)
theorem e61 : ikB Tryz.prog 6 Tryz.f61 = S61 := by kernel_rfl
theorem k61 (w0 : World) : SOK cW w0 61 S61 := okW Tryz.func61 (by kernel_rfl) e61
noncomputable def S65 (call : CallF) (N : Nat) (l : List NV) (h : H) : R :=
 uc l fun v0 l1 => uc l1 fun v2 l3 => un l3 (
 mK (boxM false v0 h) fun v4 h5 =>
 bK (ldO 1 false h5 v2) fun v6 =>
 bK (fAddr 2 v4) fun v7 =>
 bK (ldO 1 false h5 v7) fun v8 =>
 mK (calV call v6 [v8] h5) fun v9 h10 =>
 retC v9 h10)
theorem e65 : ikB Tryz.prog 6 Tryz.f65 = S65 := by kernel_rfl
theorem k65 (w0 : World) : SOK cW w0 65 S65 := okW Tryz.func65 (by kernel_rfl) e65
noncomputable def S64 (call : CallF) (N : Nat) (l : List NV) (h : H) : R :=
 uc l fun v0 l1 => uc l1 fun v2 l3 => un l3 (
 mK (calM call 128 [v0, v2] h) fun v4 h5 =>
 bK (geI v4 (NV.int .i64 (.ofNat 0))) fun v6 =>
 retC v6 h5)
theorem e64 : ikB Tryz.prog 6 Tryz.f64 = S64 := by kernel_rfl
theorem k64 (w0 : World) : SOK cW w0 64 S64 := okW Tryz.func64 (by kernel_rfl) e64
noncomputable def S66 (call : CallF) (N : Nat) (l : List NV) (h : H) : R :=
 uc l fun v0 l1 => un l1 (
 mK (boxM false v0 h) fun v2 h3 =>
 bK (fAddr 0 v2) fun v4 =>
 bK (ldO 1 false h3 v4) fun v5 =>
 mK (calM call 67 [v5, (NV.func (.func 68) [] [])] h3) fun v6 h7 =>
 jK (fun v8 h9 =>
 jK (fun v11 h12 =>
 jK (fun v14 h15 =>
 bK (pickO v6 v14 (NV.bool false)) fun v17 =>
 retC v17 h15) fun J16 => gK v6 true (
 mK (calM call 67 [v11, (NV.func (.func 68) [] [])] h12) fun v18 h19 =>
 J16 v18 h19) (J16 (NV.tuple []) h12)) fun J13 => gK v6 true (
 bK (ldO 1 false h9 v8) fun v20 =>
 J13 v20 h9) (J13 (NV.tuple []) h9)) fun J10 => gK v6 true (
 bK (fAddr 1 v2) fun v21 =>
 J10 v21 h7) (J10 (NV.tuple []) h7))
theorem e66 : ikB Tryz.prog 6 Tryz.f66 = S66 := by kernel_rfl
theorem k66 (w0 : World) : SOK cW w0 66 S66 := okW Tryz.func66 (by kernel_rfl) e66
noncomputable def S69 (call : CallF) (N : Nat) (l : List NV) (h : H) : R :=
 uc l fun v0 l1 => un l1 (
 mK (boxM false v0 h) fun v2 h3 =>
 bK (fAddr 0 v2) fun v4 =>
 bK (ldO 1 false h3 v4) fun v5 =>
 mK (calM call 70 [v5] h3) fun v6 h7 =>
 jK (fun v8 h9 =>
 jK (fun v11 h12 =>
 jK (fun v14 h15 =>
 jK (fun v17 h18 =>
 bK (pickO v6 v17 (NV.bool false)) fun v20 =>
 jK (fun v21 h22 =>
 jK (fun v24 h25 =>
 jK (fun v27 h28 =>
 bK (pickO v20 v27 (NV.bool false)) fun v30 =>
 jK (fun v31 h32 =>
 jK (fun v34 h35 =>
 jK (fun v37 h38 =>
 bK (pickO v30 v37 (NV.bool false)) fun v40 =>
 retC v40 h38) fun J39 => gK v30 true (
 mK (calM call 71 [v34] h35) fun v41 h42 =>
 J39 v41 h42) (J39 (NV.tuple []) h35)) fun J36 => gK v30 true (
 bK (ldO 1 false h32 v31) fun v43 =>
 J36 v43 h32) (J36 (NV.tuple []) h32)) fun J33 => gK v30 true (
 bK (fAddr 2 v2) fun v44 =>
 J33 v44 h28) (J33 (NV.tuple []) h28)) fun J29 => gK v20 true (
 mK (calM call 67 [v24, (NV.func (.func 68) [] [])] h25) fun v45 h46 =>
 J29 v45 h46) (J29 (NV.tuple []) h25)) fun J26 => gK v20 true (
 bK (ldO 1 false h22 v21) fun v47 =>
 J26 v47 h22) (J26 (NV.tuple []) h22)) fun J23 => gK v20 true (
 bK (fAddr 1 v2) fun v48 =>
 J23 v48 h18) (J23 (NV.tuple []) h18)) fun J19 => gK v6 true (
 bK (leI v14 (NV.int .i64 (.ofNat 50000))) fun v49 =>
 J19 v49 h15) (J19 (NV.tuple []) h15)) fun J16 => gK v6 true (
 bK (lenSl v11) fun v50 =>
 J16 v50 h12) (J16 (NV.tuple []) h12)) fun J13 => gK v6 true (
 bK (ldO 1 false h9 v8) fun v51 =>
 J13 v51 h9) (J13 (NV.tuple []) h9)) fun J10 => gK v6 true (
 bK (fAddr 1 v2) fun v52 =>
 J10 v52 h7) (J10 (NV.tuple []) h7))
theorem e69 : ikB Tryz.prog 6 Tryz.f69 = S69 := by kernel_rfl
theorem k69 (w0 : World) : SOK cW w0 69 S69 := okW Tryz.func69 (by kernel_rfl) e69
noncomputable def S72 (call : CallF) (N : Nat) (l : List NV) (h : H) : R :=
 uc l fun v0 l1 => un l1 (
 mK (boxM false v0 h) fun v2 h3 =>
 bK (fAddr 0 v2) fun v4 =>
 bK (fAddr 0 v4) fun v5 =>
 bK (ldO 1 false h3 v5) fun v6 =>
 mK (calM call 68 [v6] h3) fun v7 h8 =>
 jK (fun v9 h10 =>
 jK (fun v12 h13 =>
 jK (fun v15 h16 =>
 bK (pickO v7 v15 (NV.bool false)) fun v18 =>
 retC v18 h16) fun J17 => gK v7 true (
 mK (calM call 71 [v12] h13) fun v19 h20 =>
 J17 v19 h20) (J17 (NV.tuple []) h13)) fun J14 => gK v7 true (
 bK (ldO 1 false h10 v9) fun v21 =>
 J14 v21 h10) (J14 (NV.tuple []) h10)) fun J11 => gK v7 true (
 bK (fAddr 2 v2) fun v22 =>
 J11 v22 h8) (J11 (NV.tuple []) h8))
theorem e72 : ikB Tryz.prog 6 Tryz.f72 = S72 := by kernel_rfl
theorem k72 (w0 : World) : SOK cW w0 72 S72 := okW Tryz.func72 (by kernel_rfl) e72
noncomputable def S73 (call : CallF) (N : Nat) (l : List NV) (h : H) : R :=
 uc l fun v0 l1 => un l1 (
 mK (boxM false v0 h) fun v2 h3 =>
 bK (fAddr 0 v2) fun v4 =>
 bK (ldO 1 false h3 v4) fun v5 =>
 mK (calM call 42 [v5] h3) fun v6 h7 =>
 jK (fun v8 h9 =>
 jK (fun v11 h12 =>
 jK (fun v14 h15 =>
 bK (pickO v6 v14 (NV.bool false)) fun v17 =>
 jK (fun v18 h19 =>
 jK (fun v21 h22 =>
 jK (fun v24 h25 =>
 bK (pickO v17 v24 (NV.bool false)) fun v27 =>
 jK (fun v28 h29 =>
 jK (fun v31 h32 =>
 jK (fun v34 h35 =>
 bK (pickO v27 v34 (NV.bool false)) fun v37 =>
 retC v37 h35) fun J36 => gK v27 true (
 mK (calM call 70 [v31] h32) fun v38 h39 =>
 J36 v38 h39) (J36 (NV.tuple []) h32)) fun J33 => gK v27 true (
 bK (ldO 1 false h29 v28) fun v40 =>
 J33 v40 h29) (J33 (NV.tuple []) h29)) fun J30 => gK v27 true (
 bK (fAddr 2 v2) fun v41 =>
 J30 v41 h25) (J30 (NV.tuple []) h25)) fun J26 => gK v17 true (
 bK (leI v21 (NV.int .i64 (.ofNat 3))) fun v42 =>
 J26 v42 h22) (J26 (NV.tuple []) h22)) fun J23 => gK v17 true (
 bK (ldO 1 false h19 v18) fun v43 =>
 J23 v43 h19) (J23 (NV.tuple []) h19)) fun J20 => gK v17 true (
 bK (fAddr 1 v2) fun v44 =>
 J20 v44 h15) (J20 (NV.tuple []) h15)) fun J16 => gK v6 true (
 bK (geI v11 (NV.int .i64 (.ofNat 0))) fun v45 =>
 J16 v45 h12) (J16 (NV.tuple []) h12)) fun J13 => gK v6 true (
 bK (ldO 1 false h9 v8) fun v46 =>
 J13 v46 h9) (J13 (NV.tuple []) h9)) fun J10 => gK v6 true (
 bK (fAddr 1 v2) fun v47 =>
 J10 v47 h7) (J10 (NV.tuple []) h7))
theorem e73 : ikB Tryz.prog 6 Tryz.f73 = S73 := by kernel_rfl
theorem k73 (w0 : World) : SOK cW w0 73 S73 := okW Tryz.func73 (by kernel_rfl) e73
noncomputable def S74 (call : CallF) (N : Nat) (l : List NV) (h : H) : R :=
 uc l fun v0 l1 => uc l1 fun v2 l3 => uc l3 fun v4 l5 => un l5 (
 bK (eqI v0 (NV.int .i64 (.ofNat 0))) fun v6 =>
 jK (fun v7 h8 =>
 jK (fun v10 h11 =>
 bK (pickO v6 v10 (NV.bool false)) fun v13 =>
 jK (fun v14 h15 =>
 jK (fun v17 h18 =>
 bK (pickO v13 v17 (NV.bool false)) fun v20 =>
 jK (fun v21 h22 =>
 jK (fun v24 h25 =>
 jK (fun v27 h28 =>
 jK (fun v30 h31 =>
 jK (fun v33 h34 =>
 jK (fun v36 h37 =>
 jK (fun v39 h40 =>
 jK (fun v42 h43 =>
 jK (fun v45 h46 =>
 jK (fun v48 h49 =>
 jK (fun v51 h52 =>
 bK (pickO v20 (NV.bool true) v51) fun v54 =>
 retC v54 h52) fun J53 => gK v20 false (
 bK (pickO v39 v48 (NV.bool false)) fun v55 =>
 J53 v55 h49) (J53 (NV.tuple []) h49)) fun J50 => gK v39 true (
 bK (eqI v45 (NV.int .i64 (.ofNat 0))) fun v56 =>
 J50 v56 h46) (J50 (NV.tuple []) h46)) fun J47 => gK v39 true (
 bK (lenSl v42) fun v57 =>
 J47 v57 h43) (J47 (NV.tuple []) h43)) fun J44 => gK v39 true (
 J44 v4 h40) (J44 (NV.tuple []) h40)) fun J41 => gK v20 false (
 J41 v36 h37) (J41 (NV.tuple []) h37)) fun J38 => gK v20 false (
 bK (pickO v27 v33 (NV.bool false)) fun v58 =>
 J38 v58 h34) (J38 (NV.tuple []) h34)) fun J35 => gK v27 true (
 bK (eqI v30 (NV.int .i64 (.ofNat 0))) fun v59 =>
 J35 v59 h31) (J35 (NV.tuple []) h31)) fun J32 => gK v27 true (
 J32 v2 h28) (J32 (NV.tuple []) h28)) fun J29 => gK v20 false (
 J29 v24 h25) (J29 (NV.tuple []) h25)) fun J26 => gK v20 false (
 bK (neI v21 (NV.int .i64 (.ofNat 0))) fun v60 =>
 J26 v60 h22) (J26 (NV.tuple []) h22)) fun J23 => gK v20 false (
 J23 v0 h18) (J23 (NV.tuple []) h18)) fun J19 => gK v13 true (
 mK (calM call 71 [v14] h15) fun v61 h62 =>
 J19 v61 h62) (J19 (NV.tuple []) h15)) fun J16 => gK v13 true (
 J16 v4 h11) (J16 (NV.tuple []) h11)) fun J12 => gK v6 true (
 mK (calM call 70 [v7] h8) fun v63 h64 =>
 J12 v63 h64) (J12 (NV.tuple []) h8)) fun J9 => gK v6 true (
 J9 v2 h) (J9 (NV.tuple []) h))
theorem e74 : ikB Tryz.prog 6 Tryz.f74 = S74 := by kernel_rfl
theorem k74 (w0 : World) : SOK cW w0 74 S74 := okW Tryz.func74 (by kernel_rfl) e74
noncomputable def S75 (call : CallF) (N : Nat) (l : List NV) (h : H) : R :=
 uc l fun v0 l1 => uc l1 fun v2 l3 => un l3 (
 mK (boxM false v0 h) fun v4 h5 =>
 bK (fAddr 0 v4) fun v6 =>
 bK (ldO 1 false h5 v6) fun v7 =>
 mK (calM call 76 [v7] h5) fun v8 h9 =>
 jK (fun v10 h11 =>
 jK (fun v13 h14 =>
 jK (fun v16 h17 =>
 bK (pickO v8 v16 (NV.bool false)) fun v19 =>
 jK (fun v20 h21 =>
 jK (fun v23 h24 =>
 jK (fun v26 h27 =>
 bK (pickO v19 v26 (NV.bool false)) fun v29 =>
 jK (fun v30 h31 =>
 jK (fun v33 h34 =>
 jK (fun v36 h37 =>
 jK (fun v39 h40 =>
 jK (fun v42 h43 =>
 jK (fun v45 h46 =>
 jK (fun v48 h49 =>
 jK (fun v51 h52 =>
 bK (pickO v29 v51 (NV.bool false)) fun v54 =>
 jK (fun v55 h56 =>
 jK (fun v58 h59 =>
 jK (fun v61 h62 =>
 bK (pickO v54 v61 (NV.bool false)) fun v64 =>
 retC v64 h62) fun J63 => gK v54 true (
 mK (calM call 77 [v58, (NV.func (.func 71) [] [])] h59) fun v65 h66 =>
 J63 v65 h66) (J63 (NV.tuple []) h59)) fun J60 => gK v54 true (
 bK (ldO 1 false h56 v55) fun v67 =>
 J60 v67 h56) (J60 (NV.tuple []) h56)) fun J57 => gK v54 true (
 bK (fAddr 4 v4) fun v68 =>
 J57 v68 h52) (J57 (NV.tuple []) h52)) fun J53 => gK v29 true (
 mK (calV call v30 [v36, v42, v48] h49) fun v69 h70 =>
 J53 v69 h70) (J53 (NV.tuple []) h49)) fun J50 => gK v29 true (
 bK (ldO 1 false h46 v45) fun v71 =>
 J50 v71 h46) (J50 (NV.tuple []) h46)) fun J47 => gK v29 true (
 bK (fAddr 3 v4) fun v72 =>
 J47 v72 h43) (J47 (NV.tuple []) h43)) fun J44 => gK v29 true (
 bK (ldO 1 false h40 v39) fun v73 =>
 J44 v73 h40) (J44 (NV.tuple []) h40)) fun J41 => gK v29 true (
 bK (fAddr 2 v4) fun v74 =>
 J41 v74 h37) (J41 (NV.tuple []) h37)) fun J38 => gK v29 true (
 bK (ldO 1 false h34 v33) fun v75 =>
 J38 v75 h34) (J38 (NV.tuple []) h34)) fun J35 => gK v29 true (
 bK (fAddr 1 v4) fun v76 =>
 J35 v76 h31) (J35 (NV.tuple []) h31)) fun J32 => gK v29 true (
 bK (ldO 1 false h27 v2) fun v77 =>
 J32 v77 h27) (J32 (NV.tuple []) h27)) fun J28 => gK v19 true (
 bK (leI v23 (NV.int .i64 (.ofNat 2))) fun v78 =>
 J28 v78 h24) (J28 (NV.tuple []) h24)) fun J25 => gK v19 true (
 bK (ldO 1 false h21 v20) fun v79 =>
 J25 v79 h21) (J25 (NV.tuple []) h21)) fun J22 => gK v19 true (
 bK (fAddr 1 v4) fun v80 =>
 J22 v80 h17) (J22 (NV.tuple []) h17)) fun J18 => gK v8 true (
 bK (geI v13 (NV.int .i64 (.ofNat 0))) fun v81 =>
 J18 v81 h14) (J18 (NV.tuple []) h14)) fun J15 => gK v8 true (
 bK (ldO 1 false h11 v10) fun v82 =>
 J15 v82 h11) (J15 (NV.tuple []) h11)) fun J12 => gK v8 true (
 bK (fAddr 1 v4) fun v83 =>
 J12 v83 h9) (J12 (NV.tuple []) h9))
theorem e75 : ikB Tryz.prog 6 Tryz.f75 = S75 := by kernel_rfl
theorem k75 (w0 : World) : SOK cW w0 75 S75 := okW Tryz.func75 (by kernel_rfl) e75
noncomputable def S78 (call : CallF) (N : Nat) (l : List NV) (h : H) : R :=
 uc l fun v0 l1 => uc l1 fun v2 l3 => un l3 (
 mK (boxM false v0 h) fun v4 h5 =>
 bK (fAddr 0 v4) fun v6 =>
 bK (ldO 1 false h5 v6) fun v7 =>
 bK (eqI v7 (NV.int .i64 (.ofNat 0))) fun v8 =>
 jK (fun v9 h10 =>
 jK (fun v12 h13 =>
 jK (fun v15 h16 =>
 bK (pickO v8 (NV.bool true) v15) fun v18 =>
 jK (fun v19 h20 =>
 jK (fun v22 h23 =>
 jK (fun v25 h26 =>
 jK (fun v28 h29 =>
 jK (fun v31 h32 =>
 jK (fun v34 h35 =>
 jK (fun v37 h38 =>
 jK (fun v40 h41 =>
 bK (pickO v18 v40 (NV.bool false)) fun v43 =>
 retC v43 h41) fun J42 => gK v18 true (
 mK (calV call v19 [v25, v31, v37] h38) fun v44 h45 =>
 J42 v44 h45) (J42 (NV.tuple []) h38)) fun J39 => gK v18 true (
 bK (ldO 1 false h35 v34) fun v46 =>
 J39 v46 h35) (J39 (NV.tuple []) h35)) fun J36 => gK v18 true (
 bK (fAddr 2 v4) fun v47 =>
 J36 v47 h32) (J36 (NV.tuple []) h32)) fun J33 => gK v18 true (
 bK (ldO 1 false h29 v28) fun v48 =>
 J33 v48 h29) (J33 (NV.tuple []) h29)) fun J30 => gK v18 true (
 bK (fAddr 1 v4) fun v49 =>
 J30 v49 h26) (J30 (NV.tuple []) h26)) fun J27 => gK v18 true (
 bK (ldO 1 false h23 v22) fun v50 =>
 J27 v50 h23) (J27 (NV.tuple []) h23)) fun J24 => gK v18 true (
 bK (fAddr 0 v4) fun v51 =>
 J24 v51 h20) (J24 (NV.tuple []) h20)) fun J21 => gK v18 true (
 bK (ldO 1 false h16 v2) fun v52 =>
 J21 v52 h16) (J21 (NV.tuple []) h16)) fun J17 => gK v8 false (
 bK (eqI v12 (NV.int .i64 (.ofNat 1))) fun v53 =>
 J17 v53 h13) (J17 (NV.tuple []) h13)) fun J14 => gK v8 false (
 bK (ldO 1 false h10 v9) fun v54 =>
 J14 v54 h10) (J14 (NV.tuple []) h10)) fun J11 => gK v8 false (
 bK (fAddr 0 v4) fun v55 =>
 J11 v55 h5) (J11 (NV.tuple []) h5))
theorem e78 : ikB Tryz.prog 6 Tryz.f78 = S78 := by kernel_rfl
theorem k78 (w0 : World) : SOK cW w0 78 S78 := okW Tryz.func78 (by kernel_rfl) e78
noncomputable def S79 (call : CallF) (N : Nat) (l : List NV) (h : H) : R :=
 uc l fun v0 l1 => uc l1 fun v2 l3 => un l3 (
 mK (boxM false v2 h) fun v4 h5 =>
 mK (calM call 134 [v0, (NV.func (.func 135) [] [v4])] h5) fun v6 h7 =>
 bK (notO v6) fun v8 =>
 retC v8 h7)
theorem e79 : ikB Tryz.prog 6 Tryz.f79 = S79 := by kernel_rfl
theorem k79 (w0 : World) : SOK cW w0 79 S79 := okW Tryz.func79 (by kernel_rfl) e79
noncomputable def S80 (call : CallF) (N : Nat) (l : List NV) (h : H) : R :=
 uc l fun v0 l1 => uc l1 fun v2 l3 => un l3 (
 mK (boxM false v2 h) fun v4 h5 =>
 mK (calM call 136 [v0, (NV.func (.func 137) [] [v4])] h5) fun v6 h7 =>
 bK (notO v6) fun v8 =>
 retC v8 h7)
theorem e80 : ikB Tryz.prog 6 Tryz.f80 = S80 := by kernel_rfl
theorem k80 (w0 : World) : SOK cW w0 80 S80 := okW Tryz.func80 (by kernel_rfl) e80
noncomputable def S81 (call : CallF) (N : Nat) (l : List NV) (h : H) : R :=
 uc l fun v0 l1 => un l1 (
 mK (boxM false v0 h) fun v2 h3 =>
 bK (fAddr 0 v2) fun v4 =>
 bK (ldO 1 false h3 v4) fun v5 =>
 bK (fAddr 1 v2) fun v6 =>
 bK (ldO 1 false h3 v6) fun v7 =>
 bK (fAddr 2 v2) fun v8 =>
 bK (ldO 1 false h3 v8) fun v9 =>
 bK (bldO [(0, 1), (1, 1), (2, 1)] [(NV.str 0 0), (NV.str 0 0), (NV.int .i64 (.ofNat 0)), (NV.int .i64 (.ofNat 0)), (NV.int .i64 (.ofNat 0)), (NV.int .i64 (.ofNat 0)), (NV.int .i64 (.ofNat 0)), (NV.bool false), (NV.int .i64 (.ofNat 0)), (NV.int .i64 (.ofNat 0)), (NV.bool false), (NV.int .i64 (.ofNat 0)), (NV.bool false)] [v5, v7, v9]) fun v10 =>
 mK (alM (NB.cells [(NV.str 0 0), (NV.str 0 0), (NV.int .i64 (.ofNat 0)), (NV.int .i64 (.ofNat 0)), (NV.int .i64 (.ofNat 0)), (NV.int .i64 (.ofNat 0)), (NV.int .i64 (.ofNat 0)), (NV.bool false), (NV.int .i64 (.ofNat 0)), (NV.int .i64 (.ofNat 0)), (NV.bool false), (NV.int .i64 (.ofNat 0)), (NV.bool false)]) h3) fun v11 h12 =>
 mK (stM 13 v11 v10 h12) fun v13 h14 =>
 bK (fAddr 2 v2) fun v15 =>
 bK (ldO 1 false h14 v15) fun v16 =>
 bK (eqI v16 (NV.int .i64 (.ofNat 0))) fun v17 =>
 joinC 3 (fun v18 v19 v20 h21 =>
 jK (fun v23 h24 =>
 jK (fun v26 h27 =>
 jK (fun v29 h30 =>
 bK (pickO v20 v29 (NV.bool false)) fun v32 =>
 jK (fun v33 h34 =>
 jK (fun v36 h37 =>
 jK (fun v39 h40 =>
 bK (pickO v32 v39 (NV.bool false)) fun v42 =>
 jK (fun v43 h44 =>
 jK (fun v46 h47 =>
 jK (fun v49 h50 =>
 bK (pickO v42 v49 (NV.bool false)) fun v52 =>
 retC v52 h50) fun J51 => gK v42 true (
 mK (calM call 42 [v46] h47) fun v53 h54 =>
 J51 v53 h54) (J51 (NV.tuple []) h47)) fun J48 => gK v42 true (
 bK (ldO 1 false h44 v43) fun v55 =>
 J48 v55 h44) (J48 (NV.tuple []) h44)) fun J45 => gK v42 true (
 bK (fAddr 1 v18) fun v56 =>
 J45 v56 h40) (J45 (NV.tuple []) h40)) fun J41 => gK v32 true (
 mK (calM call 42 [v36] h37) fun v57 h58 =>
 J41 v57 h58) (J41 (NV.tuple []) h37)) fun J38 => gK v32 true (
 bK (ldO 1 false h34 v33) fun v59 =>
 J38 v59 h34) (J38 (NV.tuple []) h34)) fun J35 => gK v32 true (
 bK (fAddr 0 v18) fun v60 =>
 J35 v60 h30) (J35 (NV.tuple []) h30)) fun J31 => gK v20 true (
 bK (eqD Tryz.prog .eql 80 h27 v23 v26) fun v61 =>
 J31 v61 h27) (J31 (NV.tuple []) h27)) fun J28 => gK v20 true (
 bK (ldO 13 true h24 v18) fun v62 =>
 J28 v62 h24) (J28 (NV.tuple []) h24)) fun J25 => gK v20 true (
 bK (ldO 13 true h21 v19) fun v63 =>
 J25 v63 h21) (J25 (NV.tuple []) h21)) fun J22 =>
 condK v17 (
 bK (fAddr 3 v2) fun v64 =>
 bK (ldO 1 false h14 (chkV h14 v64)) fun v65 =>
 bK (fAddr 3 v2) fun v66 =>
 bK (ldO 1 false h14 (chkV h14 v66)) fun v67 =>
 bK (fAddr 3 v11) fun v68 =>
 mK (calM call 70 [(chkV h14 v67)] h14) fun v69 h70 =>
 nextK h14 h70 (
 bK (ldO 1 false h70 (chkV h70 v64)) fun v71 =>
 sameK v71 v65 (
 mK (stM 1 (chkV h70 v68) (chkV h70 v65) h70) fun v72 h73 =>
 nextK h70 h73 (
 J22 v2 v11 v69 h73)))) (
 bK (eqI v16 (NV.int .i64 (.ofNat 1))) fun v74 =>
 condK v74 (
 bK (fAddr 4 v2) fun v75 =>
 bK (ldO 4 true h14 (chkV h14 v75)) fun v76 =>
 bK (fAddr 4 v2) fun v77 =>
 bK (ldO 4 true h14 (chkV h14 v77)) fun v78 =>
 bK (fAddr 4 v11) fun v79 =>
 mK (calM call 84 [(chkV h14 v78)] h14) fun v80 h81 =>
 nextK h14 h81 (
 bK (ldO 4 true h81 (chkV h81 v75)) fun v82 =>
 sameK v82 v76 (
 mK (stM 4 (chkV h81 v79) (chkV h81 v76) h81) fun v83 h84 =>
 nextK h81 h84 (
 J22 v2 v11 v80 h84)))) (
 bK (eqI v16 (NV.int .i64 (.ofNat 2))) fun v85 =>
 condK v85 (
 bK (fAddr 8 v2) fun v86 =>
 bK (ldO 3 true h14 (chkV h14 v86)) fun v87 =>
 bK (fAddr 8 v2) fun v88 =>
 bK (ldO 3 true h14 (chkV h14 v88)) fun v89 =>
 bK (fAddr 8 v11) fun v90 =>
 mK (calM call 86 [(chkV h14 v89)] h14) fun v91 h92 =>
 nextK h14 h92 (
 bK (ldO 3 true h92 (chkV h92 v86)) fun v93 =>
 sameK v93 v87 (
 mK (stM 3 (chkV h92 v90) (chkV h92 v87) h92) fun v94 h95 =>
 nextK h92 h95 (
 J22 v2 v11 v91 h95)))) (
 bK (eqI v16 (NV.int .i64 (.ofNat 3))) fun v96 =>
 condK v96 (
 bK (fAddr 11 v2) fun v97 =>
 bK (ldO 2 true h14 (chkV h14 v97)) fun v98 =>
 bK (fAddr 11 v2) fun v99 =>
 bK (fAddr 0 v99) fun v100 =>
 bK (ldO 1 false h14 (chkV h14 v100)) fun v101 =>
 bK (fAddr 11 v11) fun v102 =>
 mK (calM call 68 [(chkV h14 v101)] h14) fun v103 h104 =>
 nextK h14 h104 (
 bK (ldO 2 true h104 (chkV h104 v97)) fun v105 =>
 sameK v105 v98 (
 mK (stM 2 (chkV h104 v102) (chkV h104 v98) h104) fun v106 h107 =>
 nextK h104 h107 (
 J22 v2 v11 v103 h107)))) (
 J22 v2 v11 (NV.bool false) h14)))))
theorem e81 : ikB Tryz.prog 6 Tryz.f81 = S81 := by kernel_rfl
theorem k81 (w0 : World) : SOK cW w0 81 S81 := okW Tryz.func81 (by kernel_rfl) e81
noncomputable def S82 (call : CallF) (N : Nat) (l : List NV) (h : H) : R :=
 uc l fun v0 l1 => uc l1 fun v2 l3 => un l3 (
 mK (boxM false v2 h) fun v4 h5 =>
 mK (calM call 57 [v0, (NV.func (.func 138) [] [v4])] h5) fun v6 h7 =>
 bK (notO v6) fun v8 =>
 retC v8 h7)
theorem e82 : ikB Tryz.prog 6 Tryz.f82 = S82 := by kernel_rfl
theorem k82 (w0 : World) : SOK cW w0 82 S82 := okW Tryz.func82 (by kernel_rfl) e82
noncomputable def S83 (call : CallF) (N : Nat) (l : List NV) (h : H) : R :=
 uc l fun v0 l1 => uc l1 fun v2 l3 => un l3 (
 mK (boxM false v2 h) fun v4 h5 =>
 mK (calM call 139 [v0, (NV.func (.func 140) [] [v4])] h5) fun v6 h7 =>
 bK (notO v6) fun v8 =>
 retC v8 h7)
theorem e83 : ikB Tryz.prog 6 Tryz.f83 = S83 := by kernel_rfl
theorem k83 (w0 : World) : SOK cW w0 83 S83 := okW Tryz.func83 (by kernel_rfl) e83
noncomputable def S84 (call : CallF) (N : Nat) (l : List NV) (h : H) : R :=
 uc l fun v0 l1 => un l1 (
 mK (boxM false v0 h) fun v2 h3 =>
 bK (fAddr 0 v2) fun v4 =>
 bK (ldO 1 false h3 v4) fun v5 =>
 mK (calM call 76 [v5] h3) fun v6 h7 =>
 jK (fun v8 h9 =>
 jK (fun v11 h12 =>
 jK (fun v14 h15 =>
 bK (pickO v6 v14 (NV.bool false)) fun v17 =>
 retC v17 h15) fun J16 => gK v6 true (
 mK (calM call 86 [v11] h12) fun v18 h19 =>
 J16 v18 h19) (J16 (NV.tuple []) h12)) fun J13 => gK v6 true (
 bK (ldO 3 true h9 v8) fun v20 =>
 J13 v20 h9) (J13 (NV.tuple []) h9)) fun J10 => gK v6 true (
 bK (fAddr 1 v2) fun v21 =>
 J10 v21 h7) (J10 (NV.tuple []) h7))
theorem e84 : ikB Tryz.prog 6 Tryz.f84 = S84 := by kernel_rfl
theorem k84 (w0 : World) : SOK cW w0 84 S84 := okW Tryz.func84 (by kernel_rfl) e84
noncomputable def S85 (call : CallF) (N : Nat) (l : List NV) (h : H) : R :=
 uc l fun v0 l1 => uc l1 fun v2 l3 => un l3 (
 mK (boxM false v2 h) fun v4 h5 =>
 mK (calM call 141 [v0, (NV.func (.func 142) [] [v4])] h5) fun v6 h7 =>
 bK (notO v6) fun v8 =>
 retC v8 h7)
theorem e85 : ikB Tryz.prog 6 Tryz.f85 = S85 := by kernel_rfl
theorem k85 (w0 : World) : SOK cW w0 85 S85 := okW Tryz.func85 (by kernel_rfl) e85
noncomputable def S86 (call : CallF) (N : Nat) (l : List NV) (h : H) : R :=
 uc l fun v0 l1 => un l1 (
 mK (boxM false v0 h) fun v2 h3 =>
 bK (fAddr 0 v2) fun v4 =>
 bK (ldO 1 false h3 v4) fun v5 =>
 mK (calM call 70 [v5] h3) fun v6 h7 =>
 jK (fun v8 h9 =>
 jK (fun v11 h12 =>
 jK (fun v14 h15 =>
 bK (pickO v6 v14 (NV.bool false)) fun v17 =>
 jK (fun v18 h19 =>
 jK (fun v21 h22 =>
 jK (fun v24 h25 =>
 jK (fun v27 h28 =>
 jK (fun v30 h31 =>
 jK (fun v33 h34 =>
 jK (fun v36 h37 =>
 bK (pickO v17 v36 (NV.bool false)) fun v39 =>
 retC v39 h37) fun J38 => gK v17 true (
 bK (pickO v24 (NV.bool true) v33) fun v40 =>
 J38 v40 h34) (J38 (NV.tuple []) h34)) fun J35 => gK v24 false (
 bK (eqI v30 (NV.int .i64 (.ofNat 0))) fun v41 =>
 J35 v41 h31) (J35 (NV.tuple []) h31)) fun J32 => gK v24 false (
 bK (ldO 1 false h28 v27) fun v42 =>
 J32 v42 h28) (J32 (NV.tuple []) h28)) fun J29 => gK v24 false (
 bK (fAddr 1 v2) fun v43 =>
 J29 v43 h25) (J29 (NV.tuple []) h25)) fun J26 => gK v17 true (
 J26 v21 h22) (J26 (NV.tuple []) h22)) fun J23 => gK v17 true (
 bK (ldO 1 false h19 v18) fun v44 =>
 J23 v44 h19) (J23 (NV.tuple []) h19)) fun J20 => gK v17 true (
 bK (fAddr 2 v2) fun v45 =>
 J20 v45 h15) (J20 (NV.tuple []) h15)) fun J16 => gK v6 true (
 mK (calM call 70 [v11] h12) fun v46 h47 =>
 J16 v46 h47) (J16 (NV.tuple []) h12)) fun J13 => gK v6 true (
 bK (ldO 1 false h9 v8) fun v48 =>
 J13 v48 h9) (J13 (NV.tuple []) h9)) fun J10 => gK v6 true (
 bK (fAddr 1 v2) fun v49 =>
 J10 v49 h7) (J10 (NV.tuple []) h7))
theorem e86 : ikB Tryz.prog 6 Tryz.f86 = S86 := by kernel_rfl
theorem k86 (w0 : World) : SOK cW w0 86 S86 := okW Tryz.func86 (by kernel_rfl) e86
noncomputable def S87 (call : CallF) (N : Nat) (l : List NV) (h : H) : R :=
 uc l fun v0 l1 => uc l1 fun v2 l3 => un l3 (
 mK (boxM false v2 h) fun v4 h5 =>
 mK (calM call 59 [v0, (NV.func (.func 143) [] [v4])] h5) fun v6 h7 =>
 bK (notO v6) fun v8 =>
 retC v8 h7)
theorem e87 : ikB Tryz.prog 6 Tryz.f87 = S87 := by kernel_rfl
theorem k87 (w0 : World) : SOK cW w0 87 S87 := okW Tryz.func87 (by kernel_rfl) e87
noncomputable def S88 (call : CallF) (N : Nat) (l : List NV) (h : H) : R :=
 uc l fun v0 l1 => uc l1 fun v2 l3 => un l3 (
 mK (boxM false v2 h) fun v4 h5 =>
 mK (calM call 144 [v0, (NV.func (.func 145) [] [v4])] h5) fun v6 h7 =>
 bK (notO v6) fun v8 =>
 retC v8 h7)
theorem e88 : ikB Tryz.prog 6 Tryz.f88 = S88 := by kernel_rfl
theorem k88 (w0 : World) : SOK cW w0 88 S88 := okW Tryz.func88 (by kernel_rfl) e88
noncomputable def S89 (call : CallF) (N : Nat) (l : List NV) (h : H) : R :=
 uc l fun v0 l1 => uc l1 fun v2 l3 => un l3 (
 mK (boxM false v2 h) fun v4 h5 =>
 mK (calM call 61 [v0, (NV.func (.func 146) [] [v4])] h5) fun v6 h7 =>
 bK (notO v6) fun v8 =>
 retC v8 h7)
theorem e89 : ikB Tryz.prog 6 Tryz.f89 = S89 := by kernel_rfl
theorem k89 (w0 : World) : SOK cW w0 89 S89 := okW Tryz.func89 (by kernel_rfl) e89
noncomputable def S90 (call : CallF) (N : Nat) (l : List NV) (h : H) : R :=
 uc l fun v0 l1 => uc l1 fun v2 l3 => un l3 (
 mK (boxM false v2 h) fun v4 h5 =>
 mK (calM call 64 [v0, (NV.func (.func 147) [] [v4])] h5) fun v6 h7 =>
 bK (notO v6) fun v8 =>
 retC v8 h7)
theorem e90 : ikB Tryz.prog 6 Tryz.f90 = S90 := by kernel_rfl
theorem k90 (w0 : World) : SOK cW w0 90 S90 := okW Tryz.func90 (by kernel_rfl) e90
noncomputable def S91 (call : CallF) (N : Nat) (l : List NV) (h : H) : R :=
 uc l fun v0 l1 => un l1 (
 mK (boxM false v0 h) fun v2 h3 =>
 mK (alM (NB.cells [NV.nilFunc]) h3) fun v4 h5 =>
 mK (stM 1 v4 (NV.func (.func 148) [] []) h5) fun v6 h7 =>
 bK (fAddr 2 v2) fun v8 =>
 bK (ldO 1 false h7 v8) fun v9 =>
 mK (calM call 82 [v9, (NV.func (.func 150) [] [v4])] h7) fun v10 h11 =>
 bK (notO v10) fun v12 =>
 retC v12 h11)
theorem e91 : ikB Tryz.prog 6 Tryz.f91 = S91 := by kernel_rfl
theorem k91 (w0 : World) : SOK cW w0 91 S91 := okW Tryz.func91 (by kernel_rfl) e91
noncomputable def S99 (call : CallF) (N : Nat) (l : List NV) (h : H) : R :=
 uc l fun v0 l1 => uc l1 fun v2 l3 => un l3 (
 mK (calM call 152 [v0, v2] h) fun v4 h5 =>
 retC v4 h5)
theorem e99 : ikB Tryz.prog 6 Tryz.f99 = S99 := by kernel_rfl
theorem k99 (w0 : World) : SOK cW w0 99 S99 := okW Tryz.func99 (by kernel_rfl) e99
noncomputable def S100 (call : CallF) (N : Nat) (l : List NV) (h : H) : R :=
 uc l fun v0 l1 => uc l1 fun v2 l3 => un l3 (
 bK (nilO v0) fun v4 =>
 bK (fAddr 0 v4) fun v5 =>
 bK (ldO 1 false h (chkV h v5)) fun v6 =>
 bK (nilO v0) fun v7 =>
 bK (fAddr 1 v7) fun v8 =>
 bK (ldO 1 false h (chkV h v8)) fun v9 =>
 bK (slStr v6 (some v9) none) fun v10 =>
 mK (calM call 113 [(chkV h v10), (chkV h v2)] h) fun v11 h12 =>
 nextK h h12 (
 retC v11 h12))
theorem e100 : ikB Tryz.prog 6 Tryz.f100 = S100 := by kernel_rfl
theorem k100 (w0 : World) : SOK cW w0 100 S100 := okW Tryz.func100 (by kernel_rfl) e100
noncomputable def S101 (call : CallF) (N : Nat) (l : List NV) (h : H) : R :=
 uc l fun v0 l1 => un l1 (
 joinC 0 (fun h2 =>
 retC (NV.bool false) h2) fun J3 =>
 loopC N 2 (fun L7 v4 v5 h6 =>
 bK (nilO v4) fun v8 =>
 bK (fAddr 1 v8) fun v9 =>
 bK (ldO 1 false h6 (chkV h6 v9)) fun v10 =>
 bK (nilO v4) fun v11 =>
 bK (fAddr 0 v11) fun v12 =>
 bK (ldO 1 false h6 (chkV h6 v12)) fun v13 =>
 bK (lenStr v13) fun v14 =>
 bK (ltI v10 v14) fun v15 =>
 condK v15 (
 mK (calM call 100 [v4, (NV.str 2 15144)] h6) fun v16 h17 =>
 condK v16 (
 bK (addI v5 (NV.int .i64 (.ofNat 1))) fun v18 =>
 bK (nilO v4) fun v19 =>
 bK (fAddr 1 v19) fun v20 =>
 bK (ldO 1 false h17 v20) fun v21 =>
 bK (addI v21 (NV.int .i64 (.ofNat 2))) fun v22 =>
 bK (nilO v4) fun v23 =>
 bK (fAddr 1 v23) fun v24 =>
 mK (stM 1 v24 v22 h17) fun v25 h26 =>
 L7 v4 v18 h26) (
 mK (calM call 100 [v4, (NV.str 2 10555)] h17) fun v27 h28 =>
 condK v27 (
 bK (subI v5 (NV.int .i64 (.ofNat 1))) fun v29 =>
 bK (nilO v4) fun v30 =>
 bK (fAddr 1 v30) fun v31 =>
 bK (ldO 1 false h28 v31) fun v32 =>
 bK (addI v32 (NV.int .i64 (.ofNat 2))) fun v33 =>
 bK (nilO v4) fun v34 =>
 bK (fAddr 1 v34) fun v35 =>
 mK (stM 1 v35 v33 h28) fun v36 h37 =>
 bK (eqI v29 (NV.int .i64 (.ofNat 0))) fun v38 =>
 condK v38 (
 retC (NV.bool true) h37) (
 L7 v4 v29 h37)) (
 bK (nilO v4) fun v39 =>
 bK (fAddr 1 v39) fun v40 =>
 bK (ldO 1 false h28 v40) fun v41 =>
 bK (addI v41 (NV.int .i64 (.ofNat 1))) fun v42 =>
 bK (nilO v4) fun v43 =>
 bK (fAddr 1 v43) fun v44 =>
 mK (stM 1 v44 v42 h28) fun v45 h46 =>
 L7 v4 v5 h46))) (
 J3 h6)) v0 (NV.int .i64 (.ofNat 0)) h)
theorem e101 : ikB Tryz.prog 6 Tryz.f101 = S101 := by kernel_rfl
theorem k101 (w0 : World) : SOK cW w0 101 S101 := okW Tryz.func101 (by kernel_rfl) e101
noncomputable def S102 (call : CallF) (N : Nat) (l : List NV) (h : H) : R :=
 uc l fun v0 l1 => un l1 (
 bK (nilO v0) fun v2 =>
 bK (fAddr 1 v2) fun v3 =>
 bK (ldO 1 false h v3) fun v4 =>
 bK (addI v4 (NV.int .i64 (.ofNat 1))) fun v5 =>
 bK (nilO v0) fun v6 =>
 bK (fAddr 1 v6) fun v7 =>
 mK (stM 1 v7 v5 h) fun v8 h9 =>
 joinC 0 (fun h10 =>
 retC (NV.tuple [(NV.str 0 0), (NV.bool false)]) h10) fun J11 =>
 loopC N 2 (fun L15 v12 v13 h14 =>
 bK (nilO v12) fun v16 =>
 bK (fAddr 1 v16) fun v17 =>
 bK (ldO 1 false h14 (chkV h14 v17)) fun v18 =>
 bK (nilO v12) fun v19 =>
 bK (fAddr 0 v19) fun v20 =>
 bK (ldO 1 false h14 (chkV h14 v20)) fun v21 =>
 bK (lenStr v21) fun v22 =>
 bK (ltI v18 v22) fun v23 =>
 condK v23 (
 bK (nilO v12) fun v24 =>
 bK (fAddr 0 v24) fun v25 =>
 bK (ldO 1 false h14 (chkV h14 v25)) fun v26 =>
 bK (nilO v12) fun v27 =>
 bK (fAddr 1 v27) fun v28 =>
 bK (ldO 1 false h14 (chkV h14 v28)) fun v29 =>
 bK (ixStr v26 v29) fun v30 =>
 bK (eqI v30 (NV.int .u8 (.ofNat 34))) fun v31 =>
 condK v31 (
 bK (nilO v12) fun v32 =>
 bK (fAddr 1 v32) fun v33 =>
 bK (ldO 1 false h14 v33) fun v34 =>
 bK (addI v34 (NV.int .i64 (.ofNat 1))) fun v35 =>
 bK (nilO v12) fun v36 =>
 bK (fAddr 1 v36) fun v37 =>
 mK (stM 1 v37 v35 h14) fun v38 h39 =>
 bK (b2s h39 v13) fun v40 =>
 retC (NV.tuple [v40, (NV.bool true)]) h39) (
 bK (ltI v30 (NV.int .u8 (.ofNat 32))) fun v41 =>
 jK (fun v42 h43 =>
 jK (fun v45 h46 =>
 bK (pickO v41 (NV.bool true) v45) fun v48 =>
 condK v48 (
 retC (NV.tuple [(NV.str 0 0), (NV.bool false)]) h46) (
 bK (neI v30 (NV.int .u8 (.ofNat 92))) fun v49 =>
 condK v49 (
 mK (bslM 1 true [(0, 1)] [(NV.int .u8 (.ofNat 0))] [v30] h46) fun v50 h51 =>
 mK (appM Tryz.prog 5 v13 v50 h51) fun v52 h53 =>
 bK (nilO v12) fun v54 =>
 bK (fAddr 1 v54) fun v55 =>
 bK (ldO 1 false h53 v55) fun v56 =>
 bK (addI v56 (NV.int .i64 (.ofNat 1))) fun v57 =>
 bK (nilO v12) fun v58 =>
 bK (fAddr 1 v58) fun v59 =>
 mK (stM 1 v59 v57 h53) fun v60 h61 =>
 L15 v12 v52 h61) (
 bK (nilO v12) fun v62 =>
 bK (fAddr 0 v62) fun v63 =>
 bK (ldO 1 false h46 (chkV h46 v63)) fun v64 =>
 bK (nilO v12) fun v65 =>
 bK (fAddr 1 v65) fun v66 =>
 bK (ldO 1 false h46 (chkV h46 v66)) fun v67 =>
 bK (addI v67 (NV.int .i64 (.ofNat 1))) fun v68 =>
 bK (slStr v64 (some v68) none) fun v69 =>
 mK (calM call 153 [(chkV h46 v69)] h46) fun v70 h71 =>
 nextK h46 h71 (
 bK (extO 0 v70) fun v72 =>
 bK (extO 1 v70) fun v73 =>
 bK (eqI v73 (NV.int .i64 (.ofNat 0))) fun v74 =>
 condK v74 (
 retC (NV.tuple [(NV.str 0 0), (NV.bool false)]) h71) (
 mK (appM Tryz.prog 5 v13 v72 h71) fun v75 h76 =>
 bK (nilO v12) fun v77 =>
 bK (fAddr 1 v77) fun v78 =>
 bK (ldO 1 false h76 v78) fun v79 =>
 bK (addI (NV.int .i64 (.ofNat 1)) v73) fun v80 =>
 bK (addI v79 v80) fun v81 =>
 bK (nilO v12) fun v82 =>
 bK (fAddr 1 v82) fun v83 =>
 mK (stM 1 v83 v81 h76) fun v84 h85 =>
 L15 v12 v75 h85))))) fun J47 => gK v41 false (
 bK (eqI v42 (NV.int .u8 (.ofNat 127))) fun v86 =>
 J47 v86 h43) (J47 (NV.tuple []) h43)) fun J44 => gK v41 false (
 J44 v30 h14) (J44 (NV.tuple []) h14))) (
 J11 h14)) v0 NV.nslice h9)
theorem e102 : ikB Tryz.prog 6 Tryz.f102 = S102 := by kernel_rfl
theorem k102 (w0 : World) : SOK cW w0 102 S102 := okW Tryz.func102 (by kernel_rfl) e102
noncomputable def S103 (call : CallF) (N : Nat) (l : List NV) (h : H) : R :=
 uc l fun v0 l1 => un l1 (
 bK (geI v0 (NV.int .u8 (.ofNat 48))) fun v2 =>
 jK (fun v3 h4 =>
 jK (fun v6 h7 =>
 bK (pickO v2 v6 (NV.bool false)) fun v9 =>
 jK (fun v10 h11 =>
 jK (fun v13 h14 =>
 jK (fun v16 h17 =>
 jK (fun v19 h20 =>
 jK (fun v22 h23 =>
 jK (fun v25 h26 =>
 bK (pickO v9 (NV.bool true) v25) fun v28 =>
 jK (fun v29 h30 =>
 jK (fun v32 h33 =>
 jK (fun v35 h36 =>
 jK (fun v38 h39 =>
 jK (fun v41 h42 =>
 jK (fun v44 h45 =>
 bK (pickO v28 (NV.bool true) v44) fun v47 =>
 jK (fun v48 h49 =>
 jK (fun v51 h52 =>
 jK (fun v54 h55 =>
 jK (fun v57 h58 =>
 jK (fun v60 h61 =>
 jK (fun v63 h64 =>
 jK (fun v66 h67 =>
 bK (pickO v47 (NV.bool true) v66) fun v69 =>
 retC v69 h67) fun J68 => gK v47 false (
 bK (pickO v54 v63 (NV.bool false)) fun v70 =>
 J68 v70 h64) (J68 (NV.tuple []) h64)) fun J65 => gK v54 true (
 bK (geI v60 (NV.int .i64 (.ofNat 0))) fun v71 =>
 J65 v71 h61) (J65 (NV.tuple []) h61)) fun J62 => gK v54 true (
 mK (calM call 99 [(NV.str 23 12114937140909920177855954562450149294406412304786924321), v57] h58) fun v72 h73 =>
 J62 v72 h73) (J62 (NV.tuple []) h58)) fun J59 => gK v54 true (
 J59 v0 h55) (J59 (NV.tuple []) h55)) fun J56 => gK v47 false (
 J56 v51 h52) (J56 (NV.tuple []) h52)) fun J53 => gK v47 false (
 bK (ltI v48 (NV.int .u8 (.ofNat 127))) fun v74 =>
 J53 v74 h49) (J53 (NV.tuple []) h49)) fun J50 => gK v47 false (
 J50 v0 h45) (J50 (NV.tuple []) h45)) fun J46 => gK v28 false (
 bK (pickO v35 v41 (NV.bool false)) fun v75 =>
 J46 v75 h42) (J46 (NV.tuple []) h42)) fun J43 => gK v35 true (
 bK (leI v38 (NV.int .u8 (.ofNat 90))) fun v76 =>
 J43 v76 h39) (J43 (NV.tuple []) h39)) fun J40 => gK v35 true (
 J40 v0 h36) (J40 (NV.tuple []) h36)) fun J37 => gK v28 false (
 J37 v32 h33) (J37 (NV.tuple []) h33)) fun J34 => gK v28 false (
 bK (geI v29 (NV.int .u8 (.ofNat 65))) fun v77 =>
 J34 v77 h30) (J34 (NV.tuple []) h30)) fun J31 => gK v28 false (
 J31 v0 h26) (J31 (NV.tuple []) h26)) fun J27 => gK v9 false (
 bK (pickO v16 v22 (NV.bool false)) fun v78 =>
 J27 v78 h23) (J27 (NV.tuple []) h23)) fun J24 => gK v16 true (
 bK (leI v19 (NV.int .u8 (.ofNat 122))) fun v79 =>
 J24 v79 h20) (J24 (NV.tuple []) h20)) fun J21 => gK v16 true (
 J21 v0 h17) (J21 (NV.tuple []) h17)) fun J18 => gK v9 false (
 J18 v13 h14) (J18 (NV.tuple []) h14)) fun J15 => gK v9 false (
 bK (geI v10 (NV.int .u8 (.ofNat 97))) fun v80 =>
 J15 v80 h11) (J15 (NV.tuple []) h11)) fun J12 => gK v9 false (
 J12 v0 h7) (J12 (NV.tuple []) h7)) fun J8 => gK v2 true (
 bK (leI v3 (NV.int .u8 (.ofNat 57))) fun v81 =>
 J8 v81 h4) (J8 (NV.tuple []) h4)) fun J5 => gK v2 true (
 J5 v0 h) (J5 (NV.tuple []) h))
theorem e103 : ikB Tryz.prog 6 Tryz.f103 = S103 := by kernel_rfl
theorem k103 (w0 : World) : SOK cW w0 103 S103 := okW Tryz.func103 (by kernel_rfl) e103
noncomputable def S104 (call : CallF) (N : Nat) (l : List NV) (h : H) : R :=
 uc l fun v0 l1 => uc l1 fun v2 l3 => un l3 (
 mK (calM call 13 [v0] h) fun v4 h5 =>
 bK (binO .neq v4 (NV.str 0 0)) fun v6 =>
 condK v6 (
 bK (nilO v0) fun v7 =>
 bK (fAddr 0 v7) fun v8 =>
 bK (ldO 1 false h5 v8) fun v9 =>
 mK (calM call 31 [v9, v2] h5) fun v10 h11 =>
 mK (calM call 154 [v0] h11) fun v12 h13 =>
 mK (calM call 34 [v0] h13) fun v14 h15 =>
 mK (bslM 1 false [(0, 1)] [(NV.int .i64 (.ofNat 0))] [v12] h15) fun v16 h17 =>
 mK (bslM 1 false [(0, 1)] [(NV.str 0 0)] [v4] h17) fun v18 h19 =>
 retC (NV.tuple [v16, v18]) h19) (
 joinC 1 (fun v20 h21 =>
 bK (lenSl v20) fun v23 =>
 mK (mslM 16 false (NV.str 0 0) (chkV h21 v23) (chkV h21 v23) h21) fun v24 h25 =>
 retC (NV.tuple [v20, v24]) h25) fun J22 =>
 loopC N 2 (fun L29 v26 v27 h28 =>
 bK (nilO v26) fun v30 =>
 bK (fAddr 1 v30) fun v31 =>
 bK (ldO 1 false h28 v31) fun v32 =>
 bK (lenSl v32) fun v33 =>
 bK (gtI v33 (NV.int .i64 (.ofNat 0))) fun v34 =>
 jK (fun v35 h36 =>
 jK (fun v38 h39 =>
 jK (fun v41 h42 =>
 jK (fun v44 h45 =>
 jK (fun v47 h48 =>
 jK (fun v50 h51 =>
 jK (fun v53 h54 =>
 jK (fun v56 h57 =>
 bK (pickO v34 v56 (NV.bool false)) fun v59 =>
 condK v59 (
 mK (calM call 154 [v26] h57) fun v60 h61 =>
 mK (bslM 1 false [(0, 1)] [(NV.int .i64 (.ofNat 0))] [v60] h61) fun v62 h63 =>
 mK (appM Tryz.prog 3 v27 v62 h63) fun v64 h65 =>
 L29 v26 v64 h65) (
 J22 v27 h57)) fun J58 => gK v34 true (
 bK (notO v53) fun v66 =>
 J58 v66 h54) (J58 (NV.tuple []) h54)) fun J55 => gK v34 true (
 bK (ldO 1 false h51 v50) fun v67 =>
 J55 v67 h51) (J55 (NV.tuple []) h51)) fun J52 => gK v34 true (
 bK (fAddr 26 v47) fun v68 =>
 J52 v68 h48) (J52 (NV.tuple []) h48)) fun J49 => gK v34 true (
 bK (nilO v44) fun v69 =>
 J49 v69 h45) (J49 (NV.tuple []) h45)) fun J46 => gK v34 true (
 bK (ldO 1 false h42 v41) fun v70 =>
 J46 v70 h42) (J46 (NV.tuple []) h42)) fun J43 => gK v34 true (
 bK (fAddr 0 v38) fun v71 =>
 J43 v71 h39) (J43 (NV.tuple []) h39)) fun J40 => gK v34 true (
 bK (nilO v35) fun v72 =>
 J40 v72 h36) (J40 (NV.tuple []) h36)) fun J37 => gK v34 true (
 J37 v26 h28) (J37 (NV.tuple []) h28)) v0 NV.nslice h5))
theorem e104 : ikB Tryz.prog 6 Tryz.f104 = S104 := by kernel_rfl
theorem k104 (w0 : World) : SOK cW w0 104 S104 := okW Tryz.func104 (by kernel_rfl) e104
noncomputable def S105 (call : CallF) (N : Nat) (l : List NV) (h : H) : R :=
 uc l fun v0 l1 => un l1 (
 bK (nilO v0) fun v2 =>
 bK (fAddr 1 v2) fun v3 =>
 bK (ldO 1 false h v3) fun v4 =>
 bK (lenSl v4) fun v5 =>
 bK (eqI v5 (NV.int .i64 (.ofNat 0))) fun v6 =>
 jK (fun v7 h8 =>
 jK (fun v10 h11 =>
 jK (fun v13 h14 =>
 jK (fun v16 h17 =>
 jK (fun v19 h20 =>
 jK (fun v22 h23 =>
 jK (fun v25 h26 =>
 jK (fun v28 h29 =>
 bK (pickO v6 (NV.bool true) v28) fun v31 =>
 condK v31 (
 bK (nilO v0) fun v32 =>
 bK (fAddr 0 v32) fun v33 =>
 bK (ldO 1 false h29 v33) fun v34 =>
 mK (calM call 31 [v34, (NV.bool false)] h29) fun v35 h36 =>
 retC (NV.str 0 0) h36) (
 bK (nilO v0) fun v37 =>
 bK (fAddr 1 v37) fun v38 =>
 bK (ldO 1 false h29 v38) fun v39 =>
 bK (ixS 3 v39 (NV.int .i64 (.ofNat 0))) fun v40 =>
 bK (fAddr 1 v40) fun v41 =>
 bK (ldO 1 false h29 v41) fun v42 =>
 bK (nilO v0) fun v43 =>
 bK (fAddr 1 v43) fun v44 =>
 bK (ldO 1 false h29 v44) fun v45 =>
 bK (slcO Tryz.prog 53 h29 v45 (some (NV.int .i64 (.ofNat 1))) none none) fun v46 =>
 bK (nilO v0) fun v47 =>
 bK (fAddr 1 v47) fun v48 =>
 mK (stM 1 v48 v46 h29) fun v49 h50 =>
 retC v42 h50)) fun J30 => gK v6 false (
 bK (neI v25 (NV.int .i64 (.ofNat 3))) fun v51 =>
 J30 v51 h26) (J30 (NV.tuple []) h26)) fun J27 => gK v6 false (
 bK (ldO 1 false h23 v22) fun v52 =>
 J27 v52 h23) (J27 (NV.tuple []) h23)) fun J24 => gK v6 false (
 bK (fAddr 0 v19) fun v53 =>
 J24 v53 h20) (J24 (NV.tuple []) h20)) fun J21 => gK v6 false (
 bK (ixS 3 v16 (NV.int .i64 (.ofNat 0))) fun v54 =>
 J21 v54 h17) (J21 (NV.tuple []) h17)) fun J18 => gK v6 false (
 bK (ldO 1 false h14 v13) fun v55 =>
 J18 v55 h14) (J18 (NV.tuple []) h14)) fun J15 => gK v6 false (
 bK (fAddr 1 v10) fun v56 =>
 J15 v56 h11) (J15 (NV.tuple []) h11)) fun J12 => gK v6 false (
 bK (nilO v7) fun v57 =>
 J12 v57 h8) (J12 (NV.tuple []) h8)) fun J9 => gK v6 false (
 J9 v0 h) (J9 (NV.tuple []) h))
theorem e105 : ikB Tryz.prog 6 Tryz.f105 = S105 := by kernel_rfl
theorem k105 (w0 : World) : SOK cW w0 105 S105 := okW Tryz.func105 (by kernel_rfl) e105
noncomputable def S106 (call : CallF) (N : Nat) (l : List NV) (h : H) : R :=
 uc l fun v0 l1 => uc l1 fun v2 l3 => un l3 (
 bK (lenSl v0) fun v4 =>
 joinC 0 (fun h5 =>
 retC (NV.int .i64 (.negSucc 0)) h5) fun J6 =>
 loopC N 4 (fun L12 v7 v8 v9 v10 h11 =>
 bK (ltI v10 v9) fun v13 =>
 condK v13 (
 bK (ixS 1 v7 v10) fun v14 =>
 bK (ldO 1 false h11 v14) fun v15 =>
 bK (binO .eql v8 v15) fun v16 =>
 condK v16 (
 retC v10 h11) (
 bK (addI v10 (NV.int .i64 (.ofNat 1))) fun v17 =>
 L12 v7 v8 v9 v17 h11)) (
 J6 h11)) v0 v2 v4 (NV.int .i64 (.ofNat 0)) h)
theorem e106 : ikB Tryz.prog 6 Tryz.f106 = S106 := by kernel_rfl
theorem k106 (w0 : World) : SOK cW w0 106 S106 := okW Tryz.func106 (by kernel_rfl) e106
noncomputable def S107 (call : CallF) (N : Nat) (l : List NV) (h : H) : R :=
 uc l fun v0 l1 => un l1 (
 bK (binO .eql v0 (NV.str 7 28821989593347430)) fun v2 =>
 condK v2 (
 retC (NV.tuple [(NV.int .i64 (.ofNat 112)), (NV.bool true)]) h) (
 bK (binO .eql v0 (NV.str 9 1888877922101157460069)) fun v3 =>
 condK v3 (
 retC (NV.tuple [(NV.int .i64 (.ofNat 111)), (NV.bool true)]) h) (
 retC (NV.tuple [(NV.int .i64 (.ofNat 0)), (NV.bool false)]) h)))
theorem e107 : ikB Tryz.prog 6 Tryz.f107 = S107 := by kernel_rfl
theorem k107 (w0 : World) : SOK cW w0 107 S107 := okW Tryz.func107 (by kernel_rfl) e107
noncomputable def S108 (call : CallF) (N : Nat) (l : List NV) (h : H) : R :=
 uc l fun v0 l1 => uc l1 fun v2 l3 => un l3 (
 mK (alM (NB.cells [NV.nslice, NV.nslice]) h) fun v4 h5 =>
 mK (calM call 12 [v0, (NV.str 4 1701869940)] h5) fun v6 h7 =>
 bK (extO 0 v6) fun v8 =>
 bK (extO 1 v6) fun v9 =>
 joinC 5 (fun v10 v11 v12 v13 v14 h15 =>
 mK (calM call 46 [v10, v11] h15) fun v17 h18 =>
 bK (extO 0 v17) fun v19 =>
 bK (extO 1 v17) fun v20 =>
 bK (extO 2 v17) fun v21 =>
 mK (alM (NB.cells [NV.nslice, NV.nslice]) h18) fun v22 h23 =>
 mK (stM 2 v22 v20 h23) fun v24 h25 =>
 bK (notO v13) fun v26 =>
 condK v26 (
 bK (nilO v10) fun v27 =>
 bK (fAddr 0 v27) fun v28 =>
 bK (ldO 1 false h25 (chkV h25 v28)) fun v29 =>
 bK (ldO 2 true h25 (chkV h25 v22)) fun v30 =>
 bK (ldO 2 true h25 (chkV h25 v22)) fun v31 =>
 mK (calM call 155 [(chkV h25 v29), (chkV h25 v30)] h25) fun v32 h33 =>
 nextK h25 h33 (
 bK (ldO 2 true h33 (chkV h33 v22)) fun v34 =>
 sameK v34 v31 (
 mK (stM 2 (chkV h33 v12) (chkV h33 v31) h33) fun v35 h36 =>
 nextK h33 h36 (
 bK (ldO 2 true h36 v12) fun v37 =>
 retC (NV.tuple [v32, v37, v21]) h36)))) (
 bK (nilO v10) fun v38 =>
 bK (fAddr 0 v38) fun v39 =>
 bK (ldO 1 false h25 v39) fun v40 =>
 bK (nilO v40) fun v41 =>
 bK (fAddr 0 v41) fun v42 =>
 bK (fAddr 0 v42) fun v43 =>
 bK (ldO 1 false h25 v43) fun v44 =>
 bK (lenSl v44) fun v45 =>
 bK (ltI v14 v45) fun v46 =>
 bK (nilO v10) fun v47 =>
 bK (fAddr 0 v47) fun v48 =>
 bK (ldO 1 false h25 (chkV h25 v48)) fun v49 =>
 jK (fun v50 h51 =>
 jK (fun v53 h54 =>
 jK (fun v56 h57 =>
 jK (fun v59 h60 =>
 jK (fun v62 h63 =>
 jK (fun v65 h66 =>
 jK (fun v68 h69 =>
 jK (fun v71 h72 =>
 jK (fun v74 h75 =>
 jK (fun v77 h78 =>
 jK (fun v80 h81 =>
 jK (fun v83 h84 =>
 jK (fun v86 h87 =>
 nextK h25 h87 (
 bK (pickO v46 v86 (NV.bool false)) fun v89 =>
 jK (fun v90 h91 =>
 jK (fun v93 h94 =>
 bK (pickO v89 (NV.bool true) v93) fun v96 =>
 bK (ldO 1 false h87 (chkV h87 v48)) fun v97 =>
 sameK v97 v49 (
 mK (calM call 31 [(chkV h87 v49), (chkV h87 v96)] h87) fun v98 h99 =>
 nextK h87 h99 (
 jK (fun v100 h101 =>
 jK (fun v103 h104 =>
 bK (pickO v46 v103 (NV.bool false)) fun v106 =>
 joinC 4 (fun v107 v108 v109 v110 h111 =>
 bK (ldO 2 true h111 (chkV h111 v109)) fun v113 =>
 mK (stM 2 (chkV h111 v107) (chkV h111 v113) h111) fun v114 h115 =>
 nextK h111 h115 (
 bK (ldO 2 true h115 v107) fun v116 =>
 retC (NV.tuple [v108, v116, v110]) h115)) fun J112 =>
 condK v106 (
 bK (nilO v10) fun v117 =>
 bK (fAddr 0 v117) fun v118 =>
 bK (ldO 1 false h104 v118) fun v119 =>
 bK (nilO v119) fun v120 =>
 bK (fAddr 0 v120) fun v121 =>
 bK (fAddr 0 v121) fun v122 =>
 bK (ldO 1 false h104 v122) fun v123 =>
 bK (ixS 2 v123 v14) fun v124 =>
 bK (ldO 2 true h104 v124) fun v125 =>
 mK (stM 2 v22 v125 h104) fun v126 h127 =>
 bK (fAddr 0 v22) fun v128 =>
 bK (ldO 1 false h127 v128) fun v129 =>
 bK (lenSl v129) fun v130 =>
 mK (mslM 16 false (NV.str 0 0) v130 v130 h127) fun v131 h132 =>
 J112 v12 v14 v22 v131 h132) (
 J112 v12 v14 v22 v21 h104)) fun J105 => gK v46 true (
 bK (notO v100) fun v133 =>
 J105 v133 h101) (J105 (NV.tuple []) h101)) fun J102 => gK v46 true (
 J102 v19 h99) (J102 (NV.tuple []) h99)))) fun J95 => gK v89 false (
 bK (notO v90) fun v134 =>
 J95 v134 h87) (J95 (NV.tuple []) h87)) fun J92 => gK v89 false (
 J92 v19 h87) (J92 (NV.tuple []) h87))) fun J88 => gK v46 true (
 mK (calM call 156 [(chkV h25 v80), (chkV h25 v83)] h25) fun v135 h136 =>
 J88 v135 h136) (J88 (NV.tuple []) h25)) fun J85 => gK v46 true (
 bK (ldO 2 true h25 (chkV h25 v22)) fun v137 =>
 J85 v137 h25) (J85 (NV.tuple []) h25)) fun J82 => gK v46 true (
 bK (ldO 2 true h25 (chkV h25 v77)) fun v138 =>
 J82 v138 h25) (J82 (NV.tuple []) h25)) fun J79 => gK v46 true (
 bK (ixS 2 v71 v74) fun v139 =>
 J79 v139 h25) (J79 (NV.tuple []) h25)) fun J76 => gK v46 true (
 J76 v14 h25) (J76 (NV.tuple []) h25)) fun J73 => gK v46 true (
 bK (ldO 1 false h25 (chkV h25 v68)) fun v140 =>
 J73 v140 h25) (J73 (NV.tuple []) h25)) fun J70 => gK v46 true (
 bK (fAddr 0 v65) fun v141 =>
 J70 v141 h25) (J70 (NV.tuple []) h25)) fun J67 => gK v46 true (
 bK (fAddr 0 v62) fun v142 =>
 J67 v142 h25) (J67 (NV.tuple []) h25)) fun J64 => gK v46 true (
 bK (nilO v59) fun v143 =>
 J64 v143 h25) (J64 (NV.tuple []) h25)) fun J61 => gK v46 true (
 bK (ldO 1 false h25 (chkV h25 v56)) fun v144 =>
 J61 v144 h25) (J61 (NV.tuple []) h25)) fun J58 => gK v46 true (
 bK (fAddr 0 v53) fun v145 =>
 J58 v145 h25) (J58 (NV.tuple []) h25)) fun J55 => gK v46 true (
 bK (nilO v50) fun v146 =>
 J55 v146 h25) (J55 (NV.tuple []) h25)) fun J52 => gK v46 true (
 J52 v10 h25) (J52 (NV.tuple []) h25))) fun J16 =>
 condK v9 (
 bK (nilO v0) fun v147 =>
 bK (fAddr 0 v147) fun v148 =>
 bK (ldO 1 false h7 v148) fun v149 =>
 bK (nilO v149) fun v150 =>
 bK (fAddr 11 v150) fun v151 =>
 bK (ixA 7 1 v151 (NV.int .i64 (.ofNat 4))) fun v152 =>
 bK (ldO 1 false h7 v152) fun v153 =>
 mK (calM call 51 [v8, v153] h7) fun v154 h155 =>
 mK (calM call 34 [v8] h155) fun v156 h157 =>
 J16 v0 v2 v4 v9 v154 h157) (
 J16 v0 v2 v4 v9 (NV.int .i64 (.ofNat 0)) h7))
theorem e108 : ikB Tryz.prog 6 Tryz.f108 = S108 := by kernel_rfl
theorem k108 (w0 : World) : SOK cW w0 108 S108 := okW Tryz.func108 (by kernel_rfl) e108
noncomputable def S109 (call : CallF) (N : Nat) (l : List NV) (h : H) : R :=
 uc l fun v0 l1 => un l1 (
 mK (alM (NB.cells [(NV.int .i64 (.ofNat 0)), (NV.int .i64 (.ofNat 0)), (NV.int .i64 (.ofNat 0)), (NV.bool false)]) h) fun v2 h3 =>
 mK (calM call 110 [v0] h3) fun v4 h5 =>
 mK (alM (NB.cells [(NV.int .i64 (.ofNat 0)), (NV.int .i64 (.ofNat 0)), (NV.bool false)]) h5) fun v6 h7 =>
 mK (stM 3 v6 v4 h7) fun v8 h9 =>
 bK (ldO 3 true h9 (chkV h9 v6)) fun v10 =>
 mK (calM call 157 [(chkV h9 v0)] h9) fun v11 h12 =>
 nextK h9 h12 (
 bK (bldO [(0, 1), (1, 3)] [(NV.int .i64 (.ofNat 0)), (NV.int .i64 (.ofNat 0)), (NV.int .i64 (.ofNat 0)), (NV.bool false)] [v11, v10]) fun v13 =>
 bK (ldO 3 true h12 (chkV h12 v6)) fun v14 =>
 sameK v14 v10 (
 mK (stM 4 (chkV h12 v2) (chkV h12 v13) h12) fun v15 h16 =>
 nextK h12 h16 (
 bK (ldO 4 true h16 v2) fun v17 =>
 retC v17 h16))))
theorem e109 : ikB Tryz.prog 6 Tryz.f109 = S109 := by kernel_rfl
theorem k109 (w0 : World) : SOK cW w0 109 S109 := okW Tryz.func109 (by kernel_rfl) e109
noncomputable def S110 (call : CallF) (N : Nat) (l : List NV) (h : H) : R :=
 uc l fun v0 l1 => un l1 (
 mK (alM (NB.cells [(NV.int .i64 (.ofNat 0)), (NV.int .i64 (.ofNat 0)), (NV.bool false)]) h) fun v2 h3 =>
 mK (calM call 158 [v0, (NV.int .i64 (.ofNat 32))] h3) fun v4 h5 =>
 bK (bldO [(0, 1)] [(NV.int .i64 (.ofNat 0)), (NV.int .i64 (.ofNat 0)), (NV.bool false)] [v4]) fun v6 =>
 mK (alM (NB.cells [(NV.int .i64 (.ofNat 0)), (NV.int .i64 (.ofNat 0)), (NV.bool false)]) h5) fun v7 h8 =>
 mK (stM 3 v7 v6 h8) fun v9 h10 =>
 mK (calM call 30 [v0] h10) fun v11 h12 =>
 mK (calM call 159 [v11] h12) fun v13 h14 =>
 joinC 2 (fun v15 v16 h17 =>
 bK (ldO 3 true h17 v16) fun v19 =>
 mK (stM 3 v15 v19 h17) fun v20 h21 =>
 bK (ldO 3 true h21 v15) fun v22 =>
 retC v22 h21) fun J18 =>
 condK v13 (
 mK (calM call 158 [v0, (NV.int .i64 (.ofNat 32))] h14) fun v23 h24 =>
 bK (fAddr 1 v7) fun v25 =>
 mK (stM 1 v25 v23 h24) fun v26 h27 =>
 bK (fAddr 2 v7) fun v28 =>
 mK (stM 1 v28 (NV.bool true) h27) fun v29 h30 =>
 J18 v2 v7 h30) (
 J18 v2 v7 h14))
theorem e110 : ikB Tryz.prog 6 Tryz.f110 = S110 := by kernel_rfl
theorem k110 (w0 : World) : SOK cW w0 110 S110 := okW Tryz.func110 (by kernel_rfl) e110
noncomputable def S111 (call : CallF) (N : Nat) (l : List NV) (h : H) : R :=
 uc l fun v0 l1 => un l1 (
 mK (alM (NB.cells [(NV.int .i64 (.ofNat 0)), (NV.bool false)]) h) fun v2 h3 =>
 mK (calM call 12 [v0, (NV.str 3 7632237)] h3) fun v4 h5 =>
 bK (extO 0 v4) fun v6 =>
 bK (extO 1 v4) fun v7 =>
 condK v7 (
 mK (calM call 154 [v6] h5) fun v8 h9 =>
 mK (calM call 34 [v6] h9) fun v10 h11 =>
 bK (bldO [(0, 1), (1, 1)] [(NV.int .i64 (.ofNat 0)), (NV.bool false)] [v8, (NV.bool true)]) fun v12 =>
 mK (stM 2 v2 v12 h11) fun v13 h14 =>
 bK (ldO 2 true h14 v2) fun v15 =>
 retC v15 h14) (
 mK (calM call 154 [v0] h5) fun v16 h17 =>
 bK (bldO [(0, 1)] [(NV.int .i64 (.ofNat 0)), (NV.bool false)] [v16]) fun v18 =>
 mK (stM 2 v2 v18 h17) fun v19 h20 =>
 bK (ldO 2 true h20 v2) fun v21 =>
 retC v21 h20))
theorem e111 : ikB Tryz.prog 6 Tryz.f111 = S111 := by kernel_rfl
theorem k111 (w0 : World) : SOK cW w0 111 S111 := okW Tryz.func111 (by kernel_rfl) e111
noncomputable def S112 (call : CallF) (N : Nat) (l : List NV) (h : H) : R :=
 uc l fun v0 l1 => un l1 (
 mK (calM call 30 [v0] h) fun v2 h3 =>
 bK (nilO v0) fun v4 =>
 bK (fAddr 0 v4) fun v5 =>
 bK (ldO 1 false h3 v5) fun v6 =>
 bK (binO .neq v2 (NV.str 0 0)) fun v7 =>
 mK (calM call 31 [v6, v7] h3) fun v8 h9 =>
 bK (binO .neq v2 (NV.str 0 0)) fun v10 =>
 joinC 1 (fun v11 h12 =>
 retC v11 h12) fun J13 =>
 condK v10 (
 bK (nilO v0) fun v14 =>
 bK (fAddr 1 v14) fun v15 =>
 bK (ldO 1 false h9 v15) fun v16 =>
 bK (slcO Tryz.prog 53 h9 v16 (some (NV.int .i64 (.ofNat 1))) none none) fun v17 =>
 bK (nilO v0) fun v18 =>
 bK (fAddr 1 v18) fun v19 =>
 mK (stM 1 v19 v17 h9) fun v20 h21 =>
 J13 v2 h21) (
 J13 v2 h9))
theorem e112 : ikB Tryz.prog 6 Tryz.f112 = S112 := by kernel_rfl
theorem k112 (w0 : World) : SOK cW w0 112 S112 := okW Tryz.func112 (by kernel_rfl) e112
noncomputable def S113 (call : CallF) (N : Nat) (l : List NV) (h : H) : R :=
 uc l fun v0 l1 => uc l1 fun v2 l3 => un l3 (
 mK (calM call 160 [v0, v2] h) fun v4 h5 =>
 retC v4 h5)
theorem e113 : ikB Tryz.prog 6 Tryz.f113 = S113 := by kernel_rfl
theorem k113 (w0 : World) : SOK cW w0 113 S113 := okW Tryz.func113 (by kernel_rfl) e113
noncomputable def S114 (call : CallF) (N : Nat) (l : List NV) (h : H) : R :=
 uc l fun v0 l1 => uc l1 fun v2 l3 => uc l3 fun v4 l5 => un l5 (
 mK (calM call 161 [v4, v2] h) fun v6 h7 =>
 bK (extO 0 v6) fun v8 =>
 bK (extO 1 v6) fun v9 =>
 jK (fun v10 h11 =>
 jK (fun v13 h14 =>
 bK (pickO v9 v13 (NV.bool false)) fun v16 =>
 mK (calM call 31 [v0, v16] h14) fun v17 h18 =>
 bK (cvI .i64 v8) fun v19 =>
 retC v19 h18) fun J15 => gK v9 true (
 mK (calM call 159 [v10] h11) fun v20 h21 =>
 J15 v20 h21) (J15 (NV.tuple []) h11)) fun J12 => gK v9 true (
 J12 v2 h7) (J12 (NV.tuple []) h7))
theorem e114 : ikB Tryz.prog 6 Tryz.f114 = S114 := by kernel_rfl
theorem k114 (w0 : World) : SOK cW w0 114 S114 := okW Tryz.func114 (by kernel_rfl) e114
end Go.Proofs.YtglmbknbbfmhfaaGreatDoor

