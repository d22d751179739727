/- Seat Ytcfjpomapolbfaa.ZD: the shallow functions of this program, part 1: printed by a program, each held against the staged interpreter by the kernel. -/
import Derived.Test.YtcfjpomapolbfaaGreatDoorEA
set_option maxRecDepth 100000
set_option linter.unusedVariables false
namespace Go.Proofs.YtcfjpomapolbfaaGreatDoor
open Go Go.Ne
noncomputable def S70 (call : CallF) (N : Nat) (l : List NV) (h : H) : R :=
 uc l fun v0 l1 => un l1 (
 mK (boxM false v0 h) fun v2 h3 =>
 bK (ldO 11 true h3 v2) fun v4 =>
 mK (mapM none h3) fun v5 h6 =>
 bK (bldO [(0, 11), (16, 1)] [NV.nslice, NV.nslice, NV.nslice, NV.nslice, NV.nslice, NV.nslice, NV.nslice, (NV.int .i64 (.ofNat 0)), NV.nslice, NV.nslice, (NV.bool false), NV.nslice, NV.nslice, NV.nslice, NV.nslice, (NV.int .i64 (.ofNat 0)), NV.nmap] [v4, v5]) fun v7 =>
 mK (boxM false v7 h6) fun v8 h9 =>
 bK (fAddr 1 v2) fun v10 =>
 bK (ldO 1 false h9 v10) fun v11 =>
 bK (lenSl v11) fun v12 =>
 joinC 2 (fun v13 v14 h15 =>
 bK (nilO v14) fun v17 =>
 bK (fAddr 14 v17) fun v18 =>
 bK (ldO 1 false h15 v18) fun v19 =>
 bK (lenSl v19) fun v20 =>
 bK (nilO v14) fun v21 =>
 bK (fAddr 15 v21) fun v22 =>
 mK (stM 1 v22 v20 h15) fun v23 h24 =>
 bK (fAddr 2 v13) fun v25 =>
 bK (ldO 1 false h24 v25) fun v26 =>
 bK (lenSl v26) fun v27 =>
 joinC 2 (fun v28 v29 h30 =>
 bK (nilO v29) fun v32 =>
 bK (fAddr 12 v32) fun v33 =>
 bK (ldO 1 false h30 (chkV h30 v33)) fun v34 =>
 bK (fAddr 3 v28) fun v35 =>
 bK (ldO 1 false h30 (chkV h30 v35)) fun v36 =>
 mK (appM Tryz.prog 57 (chkV h30 v34) (chkV h30 v36) h30) fun v37 h38 =>
 nextK h30 h38 (
 bK (nilO v29) fun v39 =>
 bK (fAddr 12 v39) fun v40 =>
 mK (stM 1 (chkV h38 v40) (chkV h38 v37) h38) fun v41 h42 =>
 nextK h38 h42 (
 bK (nilO v29) fun v43 =>
 bK (fAddr 13 v43) fun v44 =>
 bK (ldO 1 false h42 (chkV h42 v44)) fun v45 =>
 bK (fAddr 4 v28) fun v46 =>
 bK (ldO 1 false h42 (chkV h42 v46)) fun v47 =>
 mK (appM Tryz.prog 55 (chkV h42 v45) (chkV h42 v47) h42) fun v48 h49 =>
 nextK h42 h49 (
 bK (nilO v29) fun v50 =>
 bK (fAddr 13 v50) fun v51 =>
 mK (stM 1 (chkV h49 v51) (chkV h49 v48) h49) fun v52 h53 =>
 nextK h49 h53 (
 bK (fAddr 5 v28) fun v54 =>
 bK (ldO 1 false h53 v54) fun v55 =>
 bK (lenSl v55) fun v56 =>
 joinC 2 (fun v57 v58 h59 =>
 bK (fAddr 8 v57) fun v61 =>
 bK (ldO 1 false h59 v61) fun v62 =>
 bK (lenSl v62) fun v63 =>
 joinC 2 (fun v64 v65 h66 =>
 bK (fAddr 6 v64) fun v68 =>
 bK (ldO 1 false h66 v68) fun v69 =>
 bK (lenSl v69) fun v70 =>
 joinC 1 (fun v71 h72 =>
 retC v71 h72) fun J73 =>
 loopC N 4 (fun L79 v74 v75 v76 v77 h78 =>
 bK (ltI v77 v76) fun v80 =>
 condK v80 (
 bK (ixS 3 v75 v77) fun v81 =>
 bK (ldO 3 true h78 v81) fun v82 =>
 mK (alM (NB.cells [(NV.str 0 0), (NV.int .i64 (.ofNat 0)), (NV.int .i64 (.ofNat 0))]) h78) fun v83 h84 =>
 mK (stM 3 v83 v82 h84) fun v85 h86 =>
 bK (fAddr 1 v83) fun v87 =>
 bK (ldO 1 false h86 v87) fun v88 =>
 bK (eqI v88 (NV.int .i64 (.ofNat 0))) fun v89 =>
 joinC 4 (fun v90 v91 v92 v93 h94 =>
 bK (addI v93 (NV.int .i64 (.ofNat 1))) fun v96 =>
 L79 v90 v91 v92 v96 h94) fun J95 =>
 condK v89 (
 bK (nilO v74) fun v97 =>
 bK (fAddr 16 v97) fun v98 =>
 bK (ldO 1 false h86 (chkV h86 v98)) fun v99 =>
 bK (fAddr 2 v83) fun v100 =>
 bK (ldO 1 false h86 (chkV h86 v100)) fun v101 =>
 mK (updM Tryz.prog 263 (chkV h86 v99) (chkV h86 v101) (NV.bool true) h86) fun v102 h103 =>
 nextK h86 h103 (
 J95 v74 v75 v76 v77 h103)) (
 J95 v74 v75 v76 v77 h86)) (
 J73 v74 h78)) v65 v69 v70 (NV.int .i64 (.ofNat 0)) h66) fun J67 =>
 loopC N 5 (fun L110 v104 v105 v106 v107 v108 h109 =>
 bK (ltI v108 v107) fun v111 =>
 condK v111 (
 joinC 5 (fun v112 v113 v114 v115 v116 h117 =>
 bK (addI v116 (NV.int .i64 (.ofNat 1))) fun v119 =>
 L110 v112 v113 v114 v115 v119 h117) fun J118 =>
 bK (ixS 5 v106 v108) fun v120 =>
 bK (ldO 5 true h109 v120) fun v121 =>
 mK (alM (NB.cells [(NV.int .i64 (.ofNat 0)), (NV.int .i64 (.ofNat 0)), (NV.int .i64 (.ofNat 0)), NV.nslice, NV.nslice]) h109) fun v122 h123 =>
 mK (stM 5 v122 v121 h123) fun v124 h125 =>
 bK (fAddr 4 v122) fun v126 =>
 bK (ldO 1 false h125 v126) fun v127 =>
 bK (lenSl v127) fun v128 =>
 loopC N 8 (fun L138 v129 v130 v131 v132 v133 v134 v135 v136 h137 =>
 bK (ltI v136 v135) fun v139 =>
 condK v139 (
 bK (ixS 1 v134 v136) fun v140 =>
 bK (ldO 1 false h137 v140) fun v141 =>
 mK (calM call 141 [v130, v141] h137) fun v142 h143 =>
 bK (addI v136 (NV.int .i64 (.ofNat 1))) fun v144 =>
 L138 v129 v130 v131 v132 v133 v134 v135 v144 h143) (
 J118 v129 v130 v131 v132 v133 h137)) v104 v105 v106 v107 v108 v127 v128 (NV.int .i64 (.ofNat 0)) h125) (
 J67 v104 v105 h109)) v57 v58 v62 v63 (NV.int .i64 (.ofNat 0)) h59) fun J60 =>
 loopC N 5 (fun L151 v145 v146 v147 v148 v149 h150 =>
 bK (ltI v149 v148) fun v152 =>
 condK v152 (
 bK (ixS 3 v147 v149) fun v153 =>
 bK (ldO 3 true h150 v153) fun v154 =>
 mK (alM (NB.cells [(NV.int .i64 (.ofNat 0)), (NV.bool false), NV.nslice]) h150) fun v155 h156 =>
 mK (stM 3 v155 v154 h156) fun v157 h158 =>
 bK (nilO v146) fun v159 =>
 bK (fAddr 14 v159) fun v160 =>
 bK (ldO 1 false h158 (chkV h158 v160)) fun v161 =>
 bK (fAddr 0 v155) fun v162 =>
 bK (ldO 2 true h158 (chkV h158 v162)) fun v163 =>
 mK (bslM 1 false [(0, 2)] [(NV.int .i64 (.ofNat 0)), (NV.bool false)] [(chkV h158 v163)] h158) fun v164 h165 =>
 mK (appM Tryz.prog 36 (chkV h165 v161) (chkV h165 v164) h165) fun v166 h167 =>
 nextK h165 h167 (
 bK (nilO v146) fun v168 =>
 bK (fAddr 14 v168) fun v169 =>
 mK (stM 1 (chkV h167 v169) (chkV h167 v166) h167) fun v170 h171 =>
 nextK h167 h171 (
 bK (fAddr 2 v155) fun v172 =>
 bK (ldO 1 false h171 v172) fun v173 =>
 mK (calM call 141 [v146, v173] h171) fun v174 h175 =>
 bK (addI v149 (NV.int .i64 (.ofNat 1))) fun v176 =>
 L151 v145 v146 v147 v148 v176 h175))) (
 J60 v145 v146 h150)) v28 v29 v55 v56 (NV.int .i64 (.ofNat 0)) h53))))) fun J31 =>
 loopC N 5 (fun L183 v177 v178 v179 v180 v181 h182 =>
 bK (ltI v181 v180) fun v184 =>
 condK v184 (
 bK (ixS 3 v179 v181) fun v185 =>
 bK (ldO 3 true h182 v185) fun v186 =>
 mK (alM (NB.cells [(NV.int .i64 (.ofNat 0)), NV.nslice, NV.nslice]) h182) fun v187 h188 =>
 mK (stM 3 v187 v186 h188) fun v189 h190 =>
 bK (nilO v178) fun v191 =>
 bK (fAddr 11 v191) fun v192 =>
 bK (ldO 1 false h190 (chkV h190 v192)) fun v193 =>
 bK (fAddr 0 v187) fun v194 =>
 bK (ldO 1 false h190 (chkV h190 v194)) fun v195 =>
 mK (bslM 1 false [(0, 1)] [(NV.int .i64 (.ofNat 0))] [(chkV h190 v195)] h190) fun v196 h197 =>
 mK (appM Tryz.prog 3 (chkV h197 v193) (chkV h197 v196) h197) fun v198 h199 =>
 nextK h197 h199 (
 bK (nilO v178) fun v200 =>
 bK (fAddr 11 v200) fun v201 =>
 mK (stM 1 (chkV h199 v201) (chkV h199 v198) h199) fun v202 h203 =>
 nextK h199 h203 (
 bK (addI v181 (NV.int .i64 (.ofNat 1))) fun v204 =>
 L183 v177 v178 v179 v180 v204 h203))) (
 J31 v177 v178 h182)) v13 v14 v26 v27 (NV.int .i64 (.ofNat 0)) h24) fun J16 =>
 loopC N 5 (fun L211 v205 v206 v207 v208 v209 h210 =>
 bK (ltI v209 v208) fun v212 =>
 condK v212 (
 bK (ixS 13 v207 v209) fun v213 =>
 bK (ldO 13 true h210 v213) fun v214 =>
 mK (alM (NB.cells [(NV.str 0 0), (NV.str 0 0), (NV.int .i64 (.ofNat 0)), (NV.int .i64 (.ofNat 0)), (NV.int .i64 (.ofNat 0)), (NV.int .i64 (.ofNat 0)), (NV.int .i64 (.ofNat 0)), (NV.bool false), (NV.int .i64 (.ofNat 0)), (NV.int .i64 (.ofNat 0)), (NV.bool false), (NV.int .i64 (.ofNat 0)), (NV.bool false)]) h210) fun v215 h216 =>
 mK (stM 13 v215 v214 h216) fun v217 h218 =>
 bK (fAddr 2 v215) fun v219 =>
 bK (ldO 1 false h218 v219) fun v220 =>
 bK (eqI v220 (NV.int .i64 (.ofNat 0))) fun v221 =>
 joinC 5 (fun v222 v223 v224 v225 v226 h227 =>
 bK (addI v226 (NV.int .i64 (.ofNat 1))) fun v229 =>
 L211 v222 v223 v224 v225 v229 h227) fun J228 =>
 condK v221 (
 bK (nilO v206) fun v230 =>
 bK (fAddr 11 v230) fun v231 =>
 bK (ldO 1 false h218 (chkV h218 v231)) fun v232 =>
 bK (fAddr 3 v215) fun v233 =>
 bK (ldO 1 false h218 (chkV h218 v233)) fun v234 =>
 mK (bslM 1 false [(0, 1)] [(NV.int .i64 (.ofNat 0))] [(chkV h218 v234)] h218) fun v235 h236 =>
 mK (appM Tryz.prog 3 (chkV h236 v232) (chkV h236 v235) h236) fun v237 h238 =>
 nextK h236 h238 (
 bK (nilO v206) fun v239 =>
 bK (fAddr 11 v239) fun v240 =>
 mK (stM 1 (chkV h238 v240) (chkV h238 v237) h238) fun v241 h242 =>
 nextK h238 h242 (
 J228 v205 v206 v207 v208 v209 h242))) (
 bK (eqI v220 (NV.int .i64 (.ofNat 1))) fun v243 =>
 condK v243 (
 bK (nilO v206) fun v244 =>
 bK (fAddr 12 v244) fun v245 =>
 bK (ldO 1 false h218 (chkV h218 v245)) fun v246 =>
 bK (fAddr 4 v215) fun v247 =>
 bK (ldO 4 true h218 (chkV h218 v247)) fun v248 =>
 mK (bslM 1 false [(0, 4)] [(NV.int .i64 (.ofNat 0)), (NV.int .i64 (.ofNat 0)), (NV.int .i64 (.ofNat 0)), (NV.bool false)] [(chkV h218 v248)] h218) fun v249 h250 =>
 mK (appM Tryz.prog 57 (chkV h250 v246) (chkV h250 v249) h250) fun v251 h252 =>
 nextK h250 h252 (
 bK (nilO v206) fun v253 =>
 bK (fAddr 12 v253) fun v254 =>
 mK (stM 1 (chkV h252 v254) (chkV h252 v251) h252) fun v255 h256 =>
 nextK h252 h256 (
 J228 v205 v206 v207 v208 v209 h256))) (
 bK (eqI v220 (NV.int .i64 (.ofNat 2))) fun v257 =>
 condK v257 (
 bK (nilO v206) fun v258 =>
 bK (fAddr 13 v258) fun v259 =>
 bK (ldO 1 false h218 (chkV h218 v259)) fun v260 =>
 bK (fAddr 8 v215) fun v261 =>
 bK (ldO 3 true h218 (chkV h218 v261)) fun v262 =>
 mK (bslM 1 false [(0, 3)] [(NV.int .i64 (.ofNat 0)), (NV.int .i64 (.ofNat 0)), (NV.bool false)] [(chkV h218 v262)] h218) fun v263 h264 =>
 mK (appM Tryz.prog 55 (chkV h264 v260) (chkV h264 v263) h264) fun v265 h266 =>
 nextK h264 h266 (
 bK (nilO v206) fun v267 =>
 bK (fAddr 13 v267) fun v268 =>
 mK (stM 1 (chkV h266 v268) (chkV h266 v265) h266) fun v269 h270 =>
 nextK h266 h270 (
 J228 v205 v206 v207 v208 v209 h270))) (
 bK (nilO v206) fun v271 =>
 bK (fAddr 14 v271) fun v272 =>
 bK (ldO 1 false h218 (chkV h218 v272)) fun v273 =>
 bK (fAddr 11 v215) fun v274 =>
 bK (ldO 2 true h218 (chkV h218 v274)) fun v275 =>
 mK (bslM 1 false [(0, 2)] [(NV.int .i64 (.ofNat 0)), (NV.bool false)] [(chkV h218 v275)] h218) fun v276 h277 =>
 mK (appM Tryz.prog 36 (chkV h277 v273) (chkV h277 v276) h277) fun v278 h279 =>
 nextK h277 h279 (
 bK (nilO v206) fun v280 =>
 bK (fAddr 14 v280) fun v281 =>
 mK (stM 1 (chkV h279 v281) (chkV h279 v278) h279) fun v282 h283 =>
 nextK h279 h283 (
 J228 v205 v206 v207 v208 v209 h283)))))) (
 J16 v205 v206 h210)) v2 v8 v11 v12 (NV.int .i64 (.ofNat 0)) h9)
theorem e70 : ikB Tryz.prog 9 Tryz.f70 = S70 := by kernel_rfl
theorem k70 [Sig] (w0 : World) : SOK cW w0 70 S70 := okW Tryz.func70 (by kernel_rfl) e70
noncomputable def S71 (call : CallF) (N : Nat) (l : List NV) (h : H) : R :=
 uc l fun v0 l1 => un l1 (
 bK (nilO v0) fun v2 =>
 bK (fAddr 0 v2) fun v3 =>
 bK (ldO 11 true h v3) fun v4 =>
 mK (alM (NB.cells [NV.nslice, NV.nslice, NV.nslice, NV.nslice, NV.nslice, NV.nslice, NV.nslice, (NV.int .i64 (.ofNat 0)), NV.nslice, NV.nslice, (NV.bool false)]) h) fun v5 h6 =>
 mK (stM 11 v5 v4 h6) fun v7 h8 =>
 bK (nilO v0) fun v9 =>
 bK (fAddr 11 v9) fun v10 =>
 bK (ldO 1 false h8 v10) fun v11 =>
 bK (lenSl v11) fun v12 =>
 joinC 2 (fun v13 v14 h15 =>
 bK (nilO v13) fun v17 =>
 bK (fAddr 12 v17) fun v18 =>
 bK (ldO 1 false h15 v18) fun v19 =>
 mK (calM call 77 [v19, (NV.func (.func 143) [] [])] h15) fun v20 h21 =>
 jK (fun v22 h23 =>
 jK (fun v25 h26 =>
 jK (fun v28 h29 =>
 jK (fun v31 h32 =>
 jK (fun v34 h35 =>
 jK (fun v37 h38 =>
 bK (pickO v20 (NV.bool true) v37) fun v40 =>
 jK (fun v41 h42 =>
 jK (fun v44 h45 =>
 jK (fun v47 h48 =>
 jK (fun v50 h51 =>
 jK (fun v53 h54 =>
 jK (fun v56 h57 =>
 bK (pickO v40 (NV.bool true) v56) fun v59 =>
 condK v59 (
 retC (NV.bool false) h57) (
 bK (fAddr 5 v14) fun v60 =>
 bK (ldO 1 false h57 v60) fun v61 =>
 bK (lenSl v61) fun v62 =>
 joinC 2 (fun v63 v64 h65 =>
 bK (fAddr 7 v64) fun v67 =>
 bK (ldO 1 false h65 v67) fun v68 =>
 bK (gtI v68 (NV.int .i64 (.ofNat 0))) fun v69 =>
 joinC 1 (fun v70 h71 =>
 mK (calM call 147 [v70] h71) fun v73 h74 =>
 jK (fun v75 h76 =>
 jK (fun v78 h79 =>
 bK (pickO v73 v78 (NV.bool false)) fun v81 =>
 jK (fun v82 h83 =>
 jK (fun v85 h86 =>
 bK (pickO v81 v85 (NV.bool false)) fun v88 =>
 retC v88 h86) fun J87 => gK v81 true (
 mK (calM call 149 [v82] h83) fun v89 h90 =>
 J87 v89 h90) (J87 (NV.tuple []) h83)) fun J84 => gK v81 true (
 J84 v70 h79) (J84 (NV.tuple []) h79)) fun J80 => gK v73 true (
 mK (calM call 148 [v75] h76) fun v91 h92 =>
 J80 v91 h92) (J80 (NV.tuple []) h76)) fun J77 => gK v73 true (
 J77 v70 h74) (J77 (NV.tuple []) h74)) fun J72 =>
 condK v69 (
 bK (fAddr 7 v64) fun v93 =>
 bK (ldO 1 false h65 v93) fun v94 =>
 bK (subI v94 (NV.int .i64 (.ofNat 1))) fun v95 =>
 mK (calM call 142 [v63, v95] h65) fun v96 h97 =>
 bK (extO 0 v96) fun v98 =>
 bK (extO 1 v96) fun v99 =>
 mK (alM (NB.cells [NV.nslice, NV.nslice]) h97) fun v100 h101 =>
 mK (stM 2 v100 v98 h101) fun v102 h103 =>
 bK (notO v99) fun v104 =>
 jK (fun v105 h106 =>
 jK (fun v108 h109 =>
 jK (fun v111 h112 =>
 jK (fun v114 h115 =>
 jK (fun v117 h118 =>
 jK (fun v120 h121 =>
 jK (fun v123 h124 =>
 jK (fun v126 h127 =>
 bK (pickO v104 (NV.bool true) v126) fun v129 =>
 condK v129 (
 retC (NV.bool false) h127) (
 J72 v63 h127)) fun J128 => gK v104 false (
 bK (gtI v123 (NV.int .i64 (.ofNat 0))) fun v130 =>
 J128 v130 h124) (J128 (NV.tuple []) h124)) fun J125 => gK v104 false (
 bK (addI v111 v120) fun v131 =>
 J125 v131 h121) (J125 (NV.tuple []) h121)) fun J122 => gK v104 false (
 bK (lenSl v117) fun v132 =>
 J122 v132 h118) (J122 (NV.tuple []) h118)) fun J119 => gK v104 false (
 bK (ldO 1 false h115 v114) fun v133 =>
 J119 v133 h115) (J119 (NV.tuple []) h115)) fun J116 => gK v104 false (
 bK (fAddr 1 v100) fun v134 =>
 J116 v134 h112) (J116 (NV.tuple []) h112)) fun J113 => gK v104 false (
 bK (lenSl v108) fun v135 =>
 J113 v135 h109) (J113 (NV.tuple []) h109)) fun J110 => gK v104 false (
 bK (ldO 1 false h106 v105) fun v136 =>
 J110 v136 h106) (J110 (NV.tuple []) h106)) fun J107 => gK v104 false (
 bK (fAddr 0 v100) fun v137 =>
 J107 v137 h103) (J107 (NV.tuple []) h103)) (
 J72 v63 h65)) fun J66 =>
 loopC N 5 (fun L144 v138 v139 v140 v141 v142 h143 =>
 bK (ltI v142 v141) fun v145 =>
 condK v145 (
 bK (ixS 3 v140 v142) fun v146 =>
 bK (ldO 3 true h143 v146) fun v147 =>
 mK (alM (NB.cells [(NV.int .i64 (.ofNat 0)), (NV.bool false), NV.nslice]) h143) fun v148 h149 =>
 mK (stM 3 v148 v147 h149) fun v150 h151 =>
 bK (fAddr 2 v148) fun v152 =>
 bK (ldO 1 false h151 v152) fun v153 =>
 bK (fAddr 0 v148) fun v154 =>
 bK (fAddr 0 v154) fun v155 =>
 bK (ldO 1 false h151 v155) fun v156 =>
 mK (calM call 146 [v138, v153, v156] h151) fun v157 h158 =>
 bK (notO v157) fun v159 =>
 condK v159 (
 retC (NV.bool false) h158) (
 bK (addI v142 (NV.int .i64 (.ofNat 1))) fun v160 =>
 L144 v138 v139 v140 v141 v160 h158)) (
 J66 v138 v139 h143)) v13 v14 v61 v62 (NV.int .i64 (.ofNat 0)) h57)) fun J58 => gK v40 false (
 bK (gtI v53 (NV.int .i64 (.ofNat 1))) fun v161 =>
 J58 v161 h54) (J58 (NV.tuple []) h54)) fun J55 => gK v40 false (
 bK (lenSl v50) fun v162 =>
 J55 v162 h51) (J55 (NV.tuple []) h51)) fun J52 => gK v40 false (
 bK (ldO 1 false h48 v47) fun v163 =>
 J52 v163 h48) (J52 (NV.tuple []) h48)) fun J49 => gK v40 false (
 bK (fAddr 13 v44) fun v164 =>
 J49 v164 h45) (J49 (NV.tuple []) h45)) fun J46 => gK v40 false (
 bK (nilO v41) fun v165 =>
 J46 v165 h42) (J46 (NV.tuple []) h42)) fun J43 => gK v40 false (
 J43 v13 h38) (J43 (NV.tuple []) h38)) fun J39 => gK v20 false (
 mK (calM call 78 [v31, v34] h35) fun v166 h167 =>
 J39 v166 h167) (J39 (NV.tuple []) h35)) fun J36 => gK v20 false (
 J36 (NV.func (.func 145) [] []) h32) (J36 (NV.tuple []) h32)) fun J33 => gK v20 false (
 bK (ldO 1 false h29 v28) fun v168 =>
 J33 v168 h29) (J33 (NV.tuple []) h29)) fun J30 => gK v20 false (
 bK (fAddr 13 v25) fun v169 =>
 J30 v169 h26) (J30 (NV.tuple []) h26)) fun J27 => gK v20 false (
 bK (nilO v22) fun v170 =>
 J27 v170 h23) (J27 (NV.tuple []) h23)) fun J24 => gK v20 false (
 J24 v13 h21) (J24 (NV.tuple []) h21)) fun J16 =>
 loopC N 4 (fun L176 v171 v172 v173 v174 h175 =>
 bK (ltI v174 v173) fun v177 =>
 condK v177 (
 mK (calM call 142 [v171, v174] h175) fun v178 h179 =>
 bK (extO 0 v178) fun v180 =>
 bK (extO 1 v178) fun v181 =>
 mK (alM (NB.cells [NV.nslice, NV.nslice]) h179) fun v182 h183 =>
 mK (stM 2 v182 v180 h183) fun v184 h185 =>
 bK (notO v181) fun v186 =>
 condK v186 (
 retC (NV.bool false) h185) (
 bK (addI v174 (NV.int .i64 (.ofNat 1))) fun v187 =>
 L176 v171 v172 v173 v187 h185)) (
 J16 v171 v172 h175)) v0 v5 v12 (NV.int .i64 (.ofNat 0)) h8)
theorem e71 : ikB Tryz.prog 9 Tryz.f71 = S71 := by kernel_rfl
theorem k71 [Sig] (w0 : World) : SOK cW w0 71 S71 := okW Tryz.func71 (by kernel_rfl) e71
noncomputable def S72 (call : CallF) (N : Nat) (l : List NV) (h : H) : R :=
 uc l fun v0 l1 => uc l1 fun v2 l3 => uc l3 fun v4 l5 => uc l5 fun v6 l7 => uc l7 fun v8 l9 => un l9 (
 bK (eqD Tryz.prog .eql 121 h v0 NV.nilptr) fun v10 =>
 condK v10 (
 retC (NV.int .i64 (.ofNat 1)) h) (
 bK (lenSl v8) fun v11 =>
 mK (calM call 85 [v4, v6, v11] h) fun v12 h13 =>
 bK (notO v12) fun v14 =>
 jK (fun v15 h16 =>
 jK (fun v18 h19 =>
 jK (fun v21 h22 =>
 jK (fun v24 h25 =>
 jK (fun v27 h28 =>
 jK (fun v30 h31 =>
 jK (fun v33 h34 =>
 jK (fun v36 h37 =>
 jK (fun v39 h40 =>
 bK (pickO v14 (NV.bool true) v39) fun v42 =>
 condK v42 (
 retC (NV.int .i64 (.ofNat 44)) h40) (
 bK (nilO v0) fun v43 =>
 bK (fAddr 3 v43) fun v44 =>
 bK (ldO 1 false h40 (chkV h40 v44)) fun v45 =>
 bK (slcO Tryz.prog 33 h40 (chkV h40 v45) (some (chkV h40 v2)) none none) fun v46 =>
 bK (addI v4 v6) fun v47 =>
 bK (slcO Tryz.prog 33 h40 (chkV h40 v8) (some (chkV h40 v4)) (some (chkV h40 v47)) none) fun v48 =>
 mK (cpyM Tryz.prog 5 (chkV h40 v46) (chkV h40 v48) h40) fun v49 h50 =>
 nextK h40 h50 (
 retC (NV.int .i64 (.ofNat 0)) h50))) fun J41 => gK v14 false (
 bK (notO v36) fun v51 =>
 J41 v51 h37) (J41 (NV.tuple []) h37)) fun J38 => gK v14 false (
 mK (calM call 85 [v15, v18, v33] h34) fun v52 h53 =>
 J38 v52 h53) (J38 (NV.tuple []) h34)) fun J35 => gK v14 false (
 bK (lenSl v30) fun v54 =>
 J35 v54 h31) (J35 (NV.tuple []) h31)) fun J32 => gK v14 false (
 bK (ldO 1 false h28 v27) fun v55 =>
 J32 v55 h28) (J32 (NV.tuple []) h28)) fun J29 => gK v14 false (
 bK (fAddr 3 v24) fun v56 =>
 J29 v56 h25) (J29 (NV.tuple []) h25)) fun J26 => gK v14 false (
 bK (nilO v21) fun v57 =>
 J26 v57 h22) (J26 (NV.tuple []) h22)) fun J23 => gK v14 false (
 J23 v0 h19) (J23 (NV.tuple []) h19)) fun J20 => gK v14 false (
 J20 v6 h16) (J20 (NV.tuple []) h16)) fun J17 => gK v14 false (
 J17 v2 h13) (J17 (NV.tuple []) h13)))
theorem e72 : ikB Tryz.prog 9 Tryz.f72 = S72 := by kernel_rfl
theorem k72 [Sig] (w0 : World) : SOK cW w0 72 S72 := okW Tryz.func72 (by kernel_rfl) e72
noncomputable def S77 (call : CallF) (N : Nat) (l : List NV) (h : H) : R :=
 uc l fun v0 l1 => uc l1 fun v2 l3 => un l3 (
 mK (calM call 157 [v0, v2] h) fun v4 h5 =>
 bK (geI v4 (NV.int .i64 (.ofNat 0))) fun v6 =>
 retC v6 h5)
theorem e77 : ikB Tryz.prog 9 Tryz.f77 = S77 := by kernel_rfl
theorem k77 [Sig] (w0 : World) : SOK cW w0 77 S77 := okW Tryz.func77 (by kernel_rfl) e77
noncomputable def S78 (call : CallF) (N : Nat) (l : List NV) (h : H) : R :=
 uc l fun v0 l1 => uc l1 fun v2 l3 => un l3 (
 mK (calM call 158 [v0, v2] h) fun v4 h5 =>
 bK (geI v4 (NV.int .i64 (.ofNat 0))) fun v6 =>
 retC v6 h5)
theorem e78 : ikB Tryz.prog 9 Tryz.f78 = S78 := by kernel_rfl
theorem k78 [Sig] (w0 : World) : SOK cW w0 78 S78 := okW Tryz.func78 (by kernel_rfl) e78
noncomputable def S79 (call : CallF) (N : Nat) (l : List NV) (h : H) : R :=
 uc l fun v0 l1 => un l1 (
 mK (boxM false v0 h) fun v2 h3 =>
 mK (alM (NB.cells [NV.nslice, NV.nslice, NV.nslice, NV.nslice, NV.nslice, NV.nslice, NV.nslice, (NV.int .i64 (.ofNat 0)), NV.nslice, NV.nslice, (NV.bool false)]) h3) fun v4 h5 =>
 bK (fAddr 0 v2) fun v6 =>
 bK (ldO 1 false h5 (chkV h5 v6)) fun v7 =>
 bK (fAddr 1 v2) fun v8 =>
 bK (ldO 1 false h5 (chkV h5 v8)) fun v9 =>
 bK (fAddr 2 v2) fun v10 =>
 bK (ldO 1 false h5 (chkV h5 v10)) fun v11 =>
 bK (fAddr 3 v2) fun v12 =>
 bK (ldO 1 false h5 (chkV h5 v12)) fun v13 =>
 bK (fAddr 4 v2) fun v14 =>
 bK (ldO 1 false h5 (chkV h5 v14)) fun v15 =>
 mK (calM call 159 [(chkV h5 v7)] h5) fun v16 h17 =>
 nextK h5 h17 (
 bK (fAddr 0 v2) fun v18 =>
 bK (ldO 1 false h17 (chkV h17 v8)) fun v19 =>
 sameK v19 v9 (
 bK (ldO 1 false h17 (chkV h17 v10)) fun v20 =>
 sameK v20 v11 (
 bK (ldO 1 false h17 (chkV h17 v12)) fun v21 =>
 sameK v21 v13 (
 bK (ldO 1 false h17 (chkV h17 v14)) fun v22 =>
 sameK v22 v15 (
 mK (calM call 160 [(chkV h17 v9)] h17) fun v23 h24 =>
 nextK h17 h24 (
 bK (ldO 1 false h24 (chkV h24 v10)) fun v25 =>
 sameK v25 v11 (
 bK (ldO 1 false h24 (chkV h24 v12)) fun v26 =>
 sameK v26 v13 (
 bK (ldO 1 false h24 (chkV h24 v14)) fun v27 =>
 sameK v27 v15 (
 mK (calM call 161 [(chkV h24 v11)] h24) fun v28 h29 =>
 nextK h24 h29 (
 bK (ldO 1 false h29 (chkV h29 v12)) fun v30 =>
 sameK v30 v13 (
 bK (ldO 1 false h29 (chkV h29 v14)) fun v31 =>
 sameK v31 v15 (
 mK (calM call 162 [(chkV h29 v13)] h29) fun v32 h33 =>
 nextK h29 h33 (
 bK (ldO 1 false h33 (chkV h33 v14)) fun v34 =>
 sameK v34 v15 (
 mK (calM call 163 [(chkV h33 v15)] h33) fun v35 h36 =>
 nextK h33 h36 (
 mK (stM 1 (chkV h36 v18) (chkV h36 v16) h36) fun v37 h38 =>
 nextK h36 h38 (
 bK (fAddr 1 v2) fun v39 =>
 mK (stM 1 (chkV h38 v39) (chkV h38 v23) h38) fun v40 h41 =>
 nextK h38 h41 (
 bK (fAddr 2 v2) fun v42 =>
 mK (stM 1 (chkV h41 v42) (chkV h41 v28) h41) fun v43 h44 =>
 nextK h41 h44 (
 bK (fAddr 3 v2) fun v45 =>
 mK (stM 1 (chkV h44 v45) (chkV h44 v32) h44) fun v46 h47 =>
 nextK h44 h47 (
 bK (fAddr 4 v2) fun v48 =>
 mK (stM 1 (chkV h47 v48) (chkV h47 v35) h47) fun v49 h50 =>
 nextK h47 h50 (
 bK (fAddr 5 v2) fun v51 =>
 bK (ldO 1 false h50 (chkV h50 v51)) fun v52 =>
 bK (fAddr 6 v2) fun v53 =>
 bK (ldO 1 false h50 (chkV h50 v53)) fun v54 =>
 bK (fAddr 8 v2) fun v55 =>
 bK (ldO 1 false h50 (chkV h50 v55)) fun v56 =>
 bK (fAddr 9 v2) fun v57 =>
 bK (ldO 1 false h50 (chkV h50 v57)) fun v58 =>
 mK (calM call 164 [(chkV h50 v52)] h50) fun v59 h60 =>
 nextK h50 h60 (
 bK (fAddr 5 v2) fun v61 =>
 bK (ldO 1 false h60 (chkV h60 v53)) fun v62 =>
 sameK v62 v54 (
 bK (ldO 1 false h60 (chkV h60 v55)) fun v63 =>
 sameK v63 v56 (
 bK (ldO 1 false h60 (chkV h60 v57)) fun v64 =>
 sameK v64 v58 (
 mK (calM call 165 [(chkV h60 v54)] h60) fun v65 h66 =>
 nextK h60 h66 (
 bK (ldO 1 false h66 (chkV h66 v55)) fun v67 =>
 sameK v67 v56 (
 bK (ldO 1 false h66 (chkV h66 v57)) fun v68 =>
 sameK v68 v58 (
 mK (calM call 166 [(chkV h66 v56)] h66) fun v69 h70 =>
 nextK h66 h70 (
 bK (ldO 1 false h70 (chkV h70 v57)) fun v71 =>
 sameK v71 v58 (
 mK (calM call 167 [(chkV h70 v58)] h70) fun v72 h73 =>
 nextK h70 h73 (
 mK (stM 1 (chkV h73 v61) (chkV h73 v59) h73) fun v74 h75 =>
 nextK h73 h75 (
 bK (fAddr 6 v2) fun v76 =>
 mK (stM 1 (chkV h75 v76) (chkV h75 v65) h75) fun v77 h78 =>
 nextK h75 h78 (
 bK (fAddr 8 v2) fun v79 =>
 mK (stM 1 (chkV h78 v79) (chkV h78 v69) h78) fun v80 h81 =>
 nextK h78 h81 (
 bK (fAddr 9 v2) fun v82 =>
 mK (stM 1 (chkV h81 v82) (chkV h81 v72) h81) fun v83 h84 =>
 nextK h81 h84 (
 bK (fAddr 0 v2) fun v85 =>
 bK (ldO 1 false h84 v85) fun v86 =>
 bK (lenSl v86) fun v87 =>
 joinC 2 (fun v88 v89 h90 =>
 bK (fAddr 2 v88) fun v92 =>
 bK (ldO 1 false h90 v92) fun v93 =>
 bK (lenSl v93) fun v94 =>
 joinC 2 (fun v95 v96 h97 =>
 bK (fAddr 5 v95) fun v99 =>
 bK (ldO 1 false h97 v99) fun v100 =>
 bK (lenSl v100) fun v101 =>
 joinC 2 (fun v102 v103 h104 =>
 bK (fAddr 8 v102) fun v106 =>
 bK (ldO 1 false h104 v106) fun v107 =>
 bK (lenSl v107) fun v108 =>
 joinC 2 (fun v109 v110 h111 =>
 bK (fAddr 9 v109) fun v113 =>
 bK (ldO 1 false h111 v113) fun v114 =>
 bK (lenSl v114) fun v115 =>
 joinC 2 (fun v116 v117 h118 =>
 bK (ldO 11 true h118 v116) fun v120 =>
 mK (stM 11 v117 v120 h118) fun v121 h122 =>
 bK (ldB 11 true h122 v117) fun v123 =>
 retC v123 h122) fun J119 =>
 loopC N 4 (fun L129 v124 v125 v126 v127 h128 =>
 bK (ltI v127 v126) fun v130 =>
 condK v130 (
 bK (fAddr 9 v124) fun v131 =>
 bK (ldO 1 false h128 v131) fun v132 =>
 bK (ixS 4 v132 v127) fun v133 =>
 bK (nilO v133) fun v134 =>
 bK (fAddr 2 v134) fun v135 =>
 bK (ldO 1 false h128 (chkV h128 v135)) fun v136 =>
 bK (nilO v133) fun v137 =>
 bK (fAddr 3 v137) fun v138 =>
 bK (ldO 1 false h128 (chkV h128 v138)) fun v139 =>
 mK (calM call 168 [(chkV h128 v136)] h128) fun v140 h141 =>
 nextK h128 h141 (
 bK (ldO 1 false h141 (chkV h141 v138)) fun v142 =>
 sameK v142 v139 (
 mK (calM call 86 [(chkV h141 v139)] h141) fun v143 h144 =>
 nextK h141 h144 (
 bK (nilO v133) fun v145 =>
 bK (fAddr 2 v145) fun v146 =>
 mK (stM 1 (chkV h144 v146) (chkV h144 v140) h144) fun v147 h148 =>
 nextK h144 h148 (
 bK (nilO v133) fun v149 =>
 bK (fAddr 3 v149) fun v150 =>
 mK (stM 1 (chkV h148 v150) (chkV h148 v143) h148) fun v151 h152 =>
 nextK h148 h152 (
 bK (addI v127 (NV.int .i64 (.ofNat 1))) fun v153 =>
 L129 v124 v125 v126 v153 h152)))))) (
 J119 v124 v125 h128)) v109 v110 v115 (NV.int .i64 (.ofNat 0)) h111) fun J112 =>
 loopC N 4 (fun L159 v154 v155 v156 v157 h158 =>
 bK (ltI v157 v156) fun v160 =>
 condK v160 (
 joinC 4 (fun v161 v162 v163 v164 h165 =>
 bK (addI v164 (NV.int .i64 (.ofNat 1))) fun v167 =>
 L159 v161 v162 v163 v167 h165) fun J166 =>
 bK (fAddr 8 v154) fun v168 =>
 bK (ldO 1 false h158 v168) fun v169 =>
 bK (ixS 5 v169 v157) fun v170 =>
 bK (nilO v170) fun v171 =>
 bK (fAddr 3 v171) fun v172 =>
 bK (ldO 1 false h158 (chkV h158 v172)) fun v173 =>
 bK (nilO v170) fun v174 =>
 bK (fAddr 4 v174) fun v175 =>
 bK (ldO 1 false h158 (chkV h158 v175)) fun v176 =>
 mK (calM call 168 [(chkV h158 v173)] h158) fun v177 h178 =>
 nextK h158 h178 (
 bK (ldO 1 false h178 (chkV h178 v175)) fun v179 =>
 sameK v179 v176 (
 mK (calM call 169 [(chkV h178 v176)] h178) fun v180 h181 =>
 nextK h178 h181 (
 bK (nilO v170) fun v182 =>
 bK (fAddr 3 v182) fun v183 =>
 mK (stM 1 (chkV h181 v183) (chkV h181 v177) h181) fun v184 h185 =>
 nextK h181 h185 (
 bK (nilO v170) fun v186 =>
 bK (fAddr 4 v186) fun v187 =>
 mK (stM 1 (chkV h185 v187) (chkV h185 v180) h185) fun v188 h189 =>
 nextK h185 h189 (
 bK (nilO v170) fun v190 =>
 bK (fAddr 4 v190) fun v191 =>
 bK (ldO 1 false h189 v191) fun v192 =>
 bK (lenSl v192) fun v193 =>
 loopC N 8 (fun L203 v194 v195 v196 v197 v198 v199 v200 v201 h202 =>
 bK (ltI v201 v200) fun v204 =>
 condK v204 (
 bK (ixS 1 v199 v201) fun v205 =>
 bK (ldO 1 false h202 v205) fun v206 =>
 bK (nilO v196) fun v207 =>
 bK (fAddr 4 v207) fun v208 =>
 bK (ldO 1 false h202 (chkV h202 v208)) fun v209 =>
 mK (calM call 168 [(chkV h202 v206)] h202) fun v210 h211 =>
 nextK h202 h211 (
 bK (ixS 1 v209 v201) fun v212 =>
 bK (ldO 1 false h211 (chkV h211 v208)) fun v213 =>
 sameK v213 v209 (
 mK (stM 1 (chkV h211 v212) (chkV h211 v210) h211) fun v214 h215 =>
 nextK h211 h215 (
 bK (addI v201 (NV.int .i64 (.ofNat 1))) fun v216 =>
 L203 v194 v195 v196 v197 v198 v199 v200 v216 h215)))) (
 J166 v194 v195 v197 v198 h202)) v154 v155 v170 v156 v157 v192 v193 (NV.int .i64 (.ofNat 0)) h189)))))) (
 J112 v154 v155 h158)) v102 v103 v108 (NV.int .i64 (.ofNat 0)) h104) fun J105 =>
 loopC N 5 (fun L223 v217 v218 v219 v220 v221 h222 =>
 bK (ltI v221 v220) fun v224 =>
 condK v224 (
 bK (ixS 3 v219 v221) fun v225 =>
 bK (ldO 3 true h222 v225) fun v226 =>
 mK (alM (NB.cells [(NV.int .i64 (.ofNat 0)), (NV.bool false), NV.nslice]) h222) fun v227 h228 =>
 mK (stM 3 v227 v226 h228) fun v229 h230 =>
 bK (fAddr 5 v217) fun v231 =>
 bK (ldO 1 false h230 (chkV h230 v231)) fun v232 =>
 bK (fAddr 2 v227) fun v233 =>
 bK (ldO 1 false h230 (chkV h230 v233)) fun v234 =>
 mK (calM call 168 [(chkV h230 v234)] h230) fun v235 h236 =>
 nextK h230 h236 (
 bK (ixS 3 v232 v221) fun v237 =>
 bK (fAddr 2 v237) fun v238 =>
 bK (ldO 1 false h236 (chkV h236 v231)) fun v239 =>
 sameK v239 v232 (
 mK (stM 1 (chkV h236 v238) (chkV h236 v235) h236) fun v240 h241 =>
 nextK h236 h241 (
 bK (addI v221 (NV.int .i64 (.ofNat 1))) fun v242 =>
 L223 v217 v218 v219 v220 v242 h241)))) (
 J105 v217 v218 h222)) v95 v96 v100 v101 (NV.int .i64 (.ofNat 0)) h97) fun J98 =>
 loopC N 5 (fun L249 v243 v244 v245 v246 v247 h248 =>
 bK (ltI v247 v246) fun v250 =>
 condK v250 (
 bK (ixS 3 v245 v247) fun v251 =>
 bK (ldO 3 true h248 v251) fun v252 =>
 mK (alM (NB.cells [(NV.int .i64 (.ofNat 0)), NV.nslice, NV.nslice]) h248) fun v253 h254 =>
 mK (stM 3 v253 v252 h254) fun v255 h256 =>
 bK (fAddr 2 v243) fun v257 =>
 bK (ldO 1 false h256 (chkV h256 v257)) fun v258 =>
 bK (fAddr 0 v253) fun v259 =>
 bK (ldO 1 false h256 (chkV h256 v259)) fun v260 =>
 bK (fAddr 1 v253) fun v261 =>
 bK (ldO 1 false h256 (chkV h256 v261)) fun v262 =>
 bK (fAddr 2 v253) fun v263 =>
 bK (ldO 1 false h256 (chkV h256 v263)) fun v264 =>
 mK (calM call 45 [(chkV h256 v262)] h256) fun v265 h266 =>
 nextK h256 h266 (
 bK (ldO 1 false h266 (chkV h266 v257)) fun v267 =>
 sameK v267 v258 (
 bK (ldO 1 false h266 (chkV h266 v259)) fun v268 =>
 sameK v268 v260 (
 bK (ldO 1 false h266 (chkV h266 v263)) fun v269 =>
 sameK v269 v264 (
 mK (calM call 168 [(chkV h266 v264)] h266) fun v270 h271 =>
 nextK h266 h271 (
 bK (bldO [(0, 1), (1, 1), (2, 1)] [(NV.int .i64 (.ofNat 0)), NV.nslice, NV.nslice] [v260, v265, v270]) fun v272 =>
 bK (ixS 3 v258 v247) fun v273 =>
 bK (ldO 1 false h271 (chkV h271 v257)) fun v274 =>
 sameK v274 v258 (
 bK (ldO 1 false h271 (chkV h271 v259)) fun v275 =>
 sameK v275 v260 (
 mK (stM 3 (chkV h271 v273) (chkV h271 v272) h271) fun v276 h277 =>
 nextK h271 h277 (
 bK (addI v247 (NV.int .i64 (.ofNat 1))) fun v278 =>
 L249 v243 v244 v245 v246 v278 h277))))))))) (
 J98 v243 v244 h248)) v88 v89 v93 v94 (NV.int .i64 (.ofNat 0)) h90) fun J91 =>
 loopC N 5 (fun L285 v279 v280 v281 v282 v283 h284 =>
 bK (ltI v283 v282) fun v286 =>
 condK v286 (
 bK (ixS 2 v281 v283) fun v287 =>
 bK (ldO 2 true h284 v287) fun v288 =>
 mK (alM (NB.cells [NV.nslice, NV.nslice]) h284) fun v289 h290 =>
 mK (stM 2 v289 v288 h290) fun v291 h292 =>
 bK (fAddr 0 v279) fun v293 =>
 bK (ldO 1 false h292 (chkV h292 v293)) fun v294 =>
 bK (fAddr 0 v289) fun v295 =>
 bK (ldO 1 false h292 (chkV h292 v295)) fun v296 =>
 bK (fAddr 1 v289) fun v297 =>
 bK (ldO 1 false h292 (chkV h292 v297)) fun v298 =>
 mK (calM call 45 [(chkV h292 v296)] h292) fun v299 h300 =>
 nextK h292 h300 (
 bK (ldO 1 false h300 (chkV h300 v293)) fun v301 =>
 sameK v301 v294 (
 bK (ldO 1 false h300 (chkV h300 v297)) fun v302 =>
 sameK v302 v298 (
 mK (calM call 45 [(chkV h300 v298)] h300) fun v303 h304 =>
 nextK h300 h304 (
 bK (bldO [(0, 1), (1, 1)] [NV.nslice, NV.nslice] [v299, v303]) fun v305 =>
 bK (ixS 2 v294 v283) fun v306 =>
 bK (ldO 1 false h304 (chkV h304 v293)) fun v307 =>
 sameK v307 v294 (
 mK (stM 2 (chkV h304 v306) (chkV h304 v305) h304) fun v308 h309 =>
 nextK h304 h309 (
 bK (addI v283 (NV.int .i64 (.ofNat 1))) fun v310 =>
 L285 v279 v280 v281 v282 v310 h309))))))) (
 J91 v279 v280 h284)) v2 v4 v86 v87 (NV.int .i64 (.ofNat 0)) h84)))))))))))))))))))))))))))))))))))
theorem e79 : ikB Tryz.prog 9 Tryz.f79 = S79 := by kernel_rfl
theorem k79 [Sig] (w0 : World) : SOK cW w0 79 S79 := okW Tryz.func79 (by kernel_rfl) e79
noncomputable def S80 (call : CallF) (N : Nat) (l : List NV) (h : H) : R :=
 uc l fun v0 l1 => uc l1 fun v2 l3 => un l3 (
 bK (nilO v0) fun v4 =>
 bK (fAddr 0 v4) fun v5 =>
 bK (ldO 1 false h (chkV h v5)) fun v6 =>
 bK (nilO v0) fun v7 =>
 bK (fAddr 1 v7) fun v8 =>
 bK (ldO 11 true h (chkV h v8)) fun v9 =>
 bK (nilO v0) fun v10 =>
 bK (fAddr 12 v10) fun v11 =>
 bK (ldO 1 false h (chkV h v11)) fun v12 =>
 mK (alM (NB.cells [NV.nslice, NV.nslice, NV.nslice, NV.nslice, NV.nslice, NV.nslice, NV.nslice, (NV.int .i64 (.ofNat 0)), NV.nslice, NV.nslice, (NV.bool false)]) h) fun v13 h14 =>
 mK (stM 11 (chkV h14 v13) (chkV h14 v9) h14) fun v15 h16 =>
 nextK h14 h16 (
 bK (ldO 1 false h16 (chkV h16 v11)) fun v17 =>
 sameK v17 v12 (
 bK (ldO 11 true h16 v13) fun v18 =>
 bK (nilO v12) fun v19 =>
 bK (fAddr 0 v19) fun v20 =>
 mK (stM 11 v20 v18 h16) fun v21 h22 =>
 bK (lenSl v2) fun v23 =>
 joinC 4 (fun v24 v25 v26 v27 h28 =>
 bK (fAddr 2 v26) fun v30 =>
 bK (ldO 1 false h28 v30) fun v31 =>
 bK (lenSl v31) fun v32 =>
 joinC 4 (fun v33 v34 v35 v36 h37 =>
 bK (fAddr 3 v35) fun v39 =>
 bK (ldO 1 false h37 v39) fun v40 =>
 bK (lenSl v40) fun v41 =>
 joinC 4 (fun v42 v43 v44 v45 h46 =>
 bK (fAddr 4 v44) fun v48 =>
 bK (ldO 1 false h46 v48) fun v49 =>
 bK (lenSl v49) fun v50 =>
 joinC 4 (fun v51 v52 v53 v54 h55 =>
 bK (fAddr 5 v53) fun v57 =>
 bK (ldO 1 false h55 v57) fun v58 =>
 bK (lenSl v58) fun v59 =>
 joinC 4 (fun v60 v61 v62 v63 h64 =>
 bK (fAddr 8 v62) fun v66 =>
 bK (ldO 1 false h64 v66) fun v67 =>
 bK (lenSl v67) fun v68 =>
 joinC 3 (fun v69 v70 v71 h72 =>
 bK (fAddr 9 v70) fun v74 =>
 bK (ldO 1 false h72 v74) fun v75 =>
 bK (lenSl v75) fun v76 =>
 joinC 3 (fun v77 v78 v79 h80 =>
 bK (nilO v79) fun v82 =>
 bK (fAddr 11 v82) fun v83 =>
 bK (ldO 1 false h80 (chkV h80 v83)) fun v84 =>
 bK (nilO v79) fun v85 =>
 bK (fAddr 12 v85) fun v86 =>
 bK (ldO 1 false h80 (chkV h80 v86)) fun v87 =>
 bK (nilO v79) fun v88 =>
 bK (fAddr 13 v88) fun v89 =>
 bK (ldO 1 false h80 (chkV h80 v89)) fun v90 =>
 bK (nilO v79) fun v91 =>
 bK (fAddr 14 v91) fun v92 =>
 bK (ldO 1 false h80 (chkV h80 v92)) fun v93 =>
 bK (bldO [(0, 1), (1, 1), (2, 1), (3, 1)] [NV.nslice, NV.nslice, NV.nslice, NV.nslice] [v84, v87, v90, v93]) fun v94 =>
 mK (alM (NB.cells [NV.nslice, NV.nslice, NV.nslice, NV.nslice]) h80) fun v95 h96 =>
 mK (stM 4 (chkV h96 v95) (chkV h96 v94) h96) fun v97 h98 =>
 nextK h96 h98 (
 bK (fAddr 6 v78) fun v99 =>
 bK (ldO 1 false h98 v99) fun v100 =>
 bK (lenSl v100) fun v101 =>
 joinC 2 (fun v102 v103 h104 =>
 bK (nilO v102) fun v106 =>
 bK (fAddr 6 v106) fun v107 =>
 bK (ldO 1 false h104 v107) fun v108 =>
 mK (bslM 1 false [(0, 1)] [NV.nilptr] [v103] h104) fun v109 h110 =>
 mK (appM Tryz.prog 169 v108 v109 h110) fun v111 h112 =>
 bK (nilO v102) fun v113 =>
 bK (fAddr 6 v113) fun v114 =>
 mK (stM 1 v114 v111 h112) fun v115 h116 =>
 retC (NV.tuple []) h116) fun J105 =>
 loopC N 6 (fun L124 v117 v118 v119 v120 v121 v122 h123 =>
 bK (ltI v122 v121) fun v125 =>
 condK v125 (
 bK (ixS 3 v120 v122) fun v126 =>
 bK (ldO 3 true h123 v126) fun v127 =>
 mK (alM (NB.cells [(NV.str 0 0), (NV.int .i64 (.ofNat 0)), (NV.int .i64 (.ofNat 0))]) h123) fun v128 h129 =>
 mK (stM 3 v128 v127 h129) fun v130 h131 =>
 bK (nilO v118) fun v132 =>
 bK (fAddr 17 v132) fun v133 =>
 bK (ldO 1 false h131 (chkV h131 v133)) fun v134 =>
 bK (fAddr 0 v128) fun v135 =>
 bK (ldO 1 false h131 (chkV h131 v135)) fun v136 =>
 bK (fAddr 1 v128) fun v137 =>
 bK (ldO 1 false h131 (chkV h131 v137)) fun v138 =>
 bK (fAddr 1 v128) fun v139 =>
 bK (ldO 1 false h131 (chkV h131 v139)) fun v140 =>
 bK (ixA 4 1 v119 v140) fun v141 =>
 bK (ldO 1 false h131 (chkV h131 v141)) fun v142 =>
 bK (fAddr 2 v128) fun v143 =>
 bK (ldO 1 false h131 (chkV h131 v143)) fun v144 =>
 bK (ixS 1 v142 v144) fun v145 =>
 bK (ldO 1 false h131 (chkV h131 v145)) fun v146 =>
 bK (bldO [(0, 1), (1, 1), (2, 1)] [(NV.str 0 0), (NV.int .i64 (.ofNat 0)), (NV.int .i64 (.ofNat 0))] [v136, v138, v146]) fun v147 =>
 mK (bslM 1 false [(0, 3)] [(NV.str 0 0), (NV.int .i64 (.ofNat 0)), (NV.int .i64 (.ofNat 0))] [(chkV h131 v147)] h131) fun v148 h149 =>
 mK (appM Tryz.prog 176 (chkV h149 v134) (chkV h149 v148) h149) fun v150 h151 =>
 nextK h149 h151 (
 bK (nilO v118) fun v152 =>
 bK (fAddr 17 v152) fun v153 =>
 mK (stM 1 (chkV h151 v153) (chkV h151 v150) h151) fun v154 h155 =>
 nextK h151 h155 (
 bK (addI v122 (NV.int .i64 (.ofNat 1))) fun v156 =>
 L124 v117 v118 v119 v120 v121 v156 h155))) (
 J105 v117 v118 h123)) v77 v79 v95 v100 v101 (NV.int .i64 (.ofNat 0)) h98)) fun J81 =>
 loopC N 6 (fun L164 v157 v158 v159 v160 v161 v162 h163 =>
 bK (ltI v162 v161) fun v165 =>
 condK v165 (
 bK (ixS 4 v160 v162) fun v166 =>
 bK (ldO 4 true h163 v166) fun v167 =>
 mK (alM (NB.cells [(NV.int .i64 (.ofNat 0)), (NV.int .i64 (.ofNat 0)), NV.nslice, NV.nslice]) h163) fun v168 h169 =>
 mK (stM 4 v168 v167 h169) fun v170 h171 =>
 bK (nilO v157) fun v172 =>
 bK (fAddr 5 v172) fun v173 =>
 bK (nilO v159) fun v174 =>
 bK (fAddr 16 v174) fun v175 =>
 bK (fAddr 3 v168) fun v176 =>
 bK (ldO 1 false h171 (chkV h171 v176)) fun v177 =>
 mK (calM call 86 [(chkV h171 v177)] h171) fun v178 h179 =>
 nextK h171 h179 (
 mK (calM call 176 [(chkV h179 v173), (chkV h179 v175), (chkV h179 v178)] h179) fun v180 h181 =>
 nextK h179 h181 (
 bK (addI v162 (NV.int .i64 (.ofNat 1))) fun v182 =>
 L164 v157 v158 v159 v160 v161 v182 h181))) (
 J81 v157 v158 v159 h163)) v69 v70 v71 v75 v76 (NV.int .i64 (.ofNat 0)) h72) fun J73 =>
 loopC N 7 (fun L191 v183 v184 v185 v186 v187 v188 v189 h190 =>
 bK (ltI v189 v188) fun v192 =>
 condK v192 (
 joinC 7 (fun v193 v194 v195 v196 v197 v198 v199 h200 =>
 bK (addI v199 (NV.int .i64 (.ofNat 1))) fun v202 =>
 L191 v193 v194 v195 v196 v197 v198 v202 h200) fun J201 =>
 bK (ixS 5 v187 v189) fun v203 =>
 bK (ldO 5 true h190 v203) fun v204 =>
 mK (alM (NB.cells [(NV.int .i64 (.ofNat 0)), (NV.int .i64 (.ofNat 0)), (NV.int .i64 (.ofNat 0)), NV.nslice, NV.nslice]) h190) fun v205 h206 =>
 mK (stM 5 v205 v204 h206) fun v207 h208 =>
 bK (fAddr 4 v205) fun v209 =>
 bK (ldO 1 false h208 v209) fun v210 =>
 bK (lenSl v210) fun v211 =>
 joinC 8 (fun v212 v213 v214 v215 v216 v217 v218 v219 h220 =>
 bK (nilO v213) fun v222 =>
 bK (fAddr 4 v222) fun v223 =>
 bK (nilO v215) fun v224 =>
 bK (fAddr 15 v224) fun v225 =>
 mK (calM call 175 [(chkV h220 v223), (chkV h220 v225), (chkV h220 v216)] h220) fun v226 h227 =>
 nextK h220 h227 (
 J201 v212 v213 v214 v215 v217 v218 v219 h227)) fun J221 =>
 loopC N 12 (fun L241 v228 v229 v230 v231 v232 v233 v234 v235 v236 v237 v238 v239 h240 =>
 bK (ltI v239 v238) fun v242 =>
 condK v242 (
 bK (ixS 1 v237 v239) fun v243 =>
 bK (ldO 1 false h240 v243) fun v244 =>
 bK (fAddr 1 v232) fun v245 =>
 bK (ldO 1 false h240 v245) fun v246 =>
 bK (neI v246 (NV.int .i64 (.ofNat 2))) fun v247 =>
 joinC 12 (fun v248 v249 v250 v251 v252 v253 v254 v255 v256 v257 v258 v259 h260 =>
 bK (addI v259 (NV.int .i64 (.ofNat 1))) fun v262 =>
 L241 v248 v249 v250 v251 v252 v253 v254 v255 v256 v257 v258 v262 h260) fun J261 =>
 condK v247 (
 mK (calM call 174 [v228, v244] h240) fun v263 h264 =>
 mK (bslM 1 false [(0, 4)] [(NV.int .i64 (.ofNat 0)), (NV.int .u64 (.ofNat 0)), (NV.int .u64 (.ofNat 0)), (NV.bool false)] [v263] h264) fun v265 h266 =>
 mK (appM Tryz.prog 24 v233 v265 h266) fun v267 h268 =>
 J261 v228 v229 v230 v231 v232 v267 v234 v235 v236 v237 v238 v239 h268) (
 J261 v228 v229 v230 v231 v232 v233 v234 v235 v236 v237 v238 v239 h240)) (
 J221 v228 v229 v230 v231 v233 v234 v235 v236 h240)) v183 v184 v185 v186 v205 NV.nslice v187 v188 v189 v210 v211 (NV.int .i64 (.ofNat 0)) h208) (
 J73 v184 v185 v186 h190)) v60 v61 v62 v63 v67 v68 (NV.int .i64 (.ofNat 0)) h64) fun J65 =>
 loopC N 7 (fun L277 v269 v270 v271 v272 v273 v274 v275 h276 =>
 bK (ltI v275 v274) fun v278 =>
 condK v278 (
 bK (ixS 3 v273 v275) fun v279 =>
 bK (ldO 3 true h276 v279) fun v280 =>
 mK (alM (NB.cells [(NV.int .i64 (.ofNat 0)), (NV.bool false), NV.nslice]) h276) fun v281 h282 =>
 mK (stM 3 v281 v280 h282) fun v283 h284 =>
 bK (nilO v270) fun v285 =>
 bK (fAddr 3 v285) fun v286 =>
 bK (nilO v272) fun v287 =>
 bK (fAddr 14 v287) fun v288 =>
 bK (fAddr 0 v281) fun v289 =>
 bK (ldO 2 true h284 (chkV h284 v289)) fun v290 =>
 bK (fAddr 2 v281) fun v291 =>
 bK (ldO 1 false h284 (chkV h284 v291)) fun v292 =>
 mK (calM call 174 [(chkV h284 v269), (chkV h284 v292)] h284) fun v293 h294 =>
 nextK h284 h294 (
 bK (bldO [(0, 2), (2, 4)] [(NV.int .i64 (.ofNat 0)), (NV.bool false), (NV.int .i64 (.ofNat 0)), (NV.int .u64 (.ofNat 0)), (NV.int .u64 (.ofNat 0)), (NV.bool false)] [v290, v293]) fun v295 =>
 bK (ldO 2 true h294 (chkV h294 v289)) fun v296 =>
 sameK v296 v290 (
 mK (boxM false (chkV h294 v295) h294) fun v297 h298 =>
 mK (calM call 173 [(chkV h298 v286), (chkV h298 v288), (chkV h298 v297)] h298) fun v299 h300 =>
 nextK h298 h300 (
 bK (addI v275 (NV.int .i64 (.ofNat 1))) fun v301 =>
 L277 v269 v270 v271 v272 v273 v274 v301 h300)))) (
 J65 v269 v270 v271 v272 h276)) v51 v52 v53 v54 v58 v59 (NV.int .i64 (.ofNat 0)) h55) fun J56 =>
 loopC N 7 (fun L310 v302 v303 v304 v305 v306 v307 v308 h309 =>
 bK (ltI v308 v307) fun v311 =>
 condK v311 (
 bK (ixS 3 v306 v308) fun v312 =>
 bK (ldO 3 true h309 v312) fun v313 =>
 mK (alM (NB.cells [(NV.int .i64 (.ofNat 0)), (NV.int .i64 (.ofNat 0)), (NV.bool false)]) h309) fun v314 h315 =>
 mK (stM 3 v314 v313 h315) fun v316 h317 =>
 bK (nilO v303) fun v318 =>
 bK (fAddr 2 v318) fun v319 =>
 bK (nilO v305) fun v320 =>
 bK (fAddr 13 v320) fun v321 =>
 bK (ldO 3 true h317 (chkV h317 v314)) fun v322 =>
 bK (fAddr 0 v314) fun v323 =>
 bK (ldO 1 false h317 (chkV h317 v323)) fun v324 =>
 bK (binO .mul v324 (NV.int .i64 (.ofNat 65536))) fun v325 =>
 mK (mslM 1 true (NV.int .u8 (.ofNat 0)) (chkV h317 v325) (chkV h317 v325) h317) fun v326 h327 =>
 bK (bldO [(0, 3), (3, 1)] [(NV.int .i64 (.ofNat 0)), (NV.int .i64 (.ofNat 0)), (NV.bool false), NV.nslice] [v322, v326]) fun v328 =>
 mK (boxM false (chkV h327 v328) h327) fun v329 h330 =>
 mK (calM call 172 [(chkV h330 v319), (chkV h330 v321), (chkV h330 v329)] h330) fun v331 h332 =>
 nextK h330 h332 (
 bK (addI v308 (NV.int .i64 (.ofNat 1))) fun v333 =>
 L310 v302 v303 v304 v305 v306 v307 v333 h332)) (
 J56 v302 v303 v304 v305 h309)) v42 v43 v44 v45 v49 v50 (NV.int .i64 (.ofNat 0)) h46) fun J47 =>
 loopC N 7 (fun L342 v334 v335 v336 v337 v338 v339 v340 h341 =>
 bK (ltI v340 v339) fun v343 =>
 condK v343 (
 bK (ixS 4 v338 v340) fun v344 =>
 bK (ldO 4 true h341 v344) fun v345 =>
 mK (alM (NB.cells [(NV.int .i64 (.ofNat 0)), (NV.int .i64 (.ofNat 0)), (NV.int .i64 (.ofNat 0)), (NV.bool false)]) h341) fun v346 h347 =>
 mK (stM 4 v346 v345 h347) fun v348 h349 =>
 bK (nilO v335) fun v350 =>
 bK (fAddr 1 v350) fun v351 =>
 bK (nilO v337) fun v352 =>
 bK (fAddr 12 v352) fun v353 =>
 bK (ldO 4 true h349 (chkV h349 v346)) fun v354 =>
 bK (fAddr 0 v346) fun v355 =>
 bK (ldO 1 false h349 (chkV h349 v355)) fun v356 =>
 bK (fAddr 1 v346) fun v357 =>
 bK (fAddr 0 v357) fun v358 =>
 bK (ldO 1 false h349 (chkV h349 v358)) fun v359 =>
 mK (calM call 113 [(chkV h349 v356)] h349) fun v360 h361 =>
 nextK h349 h361 (
 bK (ldO 4 true h361 (chkV h361 v346)) fun v362 =>
 sameK v362 v354 (
 bK (ldO 1 false h361 (chkV h361 v358)) fun v363 =>
 sameK v363 v359 (
 mK (bslM 1 false [(0, 4)] [(NV.int .i64 (.ofNat 0)), (NV.int .u64 (.ofNat 0)), (NV.int .u64 (.ofNat 0)), (NV.bool false)] [(chkV h361 v360)] h361) fun v364 h365 =>
 mK (calM call 88 [(chkV h365 v364), (chkV h365 v359)] h365) fun v366 h367 =>
 nextK h365 h367 (
 bK (bldO [(0, 4), (4, 1)] [(NV.int .i64 (.ofNat 0)), (NV.int .i64 (.ofNat 0)), (NV.int .i64 (.ofNat 0)), (NV.bool false), NV.nslice] [v354, v366]) fun v368 =>
 bK (ldO 4 true h367 (chkV h367 v346)) fun v369 =>
 sameK v369 v354 (
 mK (boxM false (chkV h367 v368) h367) fun v370 h371 =>
 mK (calM call 171 [(chkV h371 v351), (chkV h371 v353), (chkV h371 v370)] h371) fun v372 h373 =>
 nextK h371 h373 (
 bK (addI v340 (NV.int .i64 (.ofNat 1))) fun v374 =>
 L342 v334 v335 v336 v337 v338 v339 v374 h373))))))) (
 J47 v334 v335 v336 v337 h341)) v33 v34 v35 v36 v40 v41 (NV.int .i64 (.ofNat 0)) h37) fun J38 =>
 loopC N 7 (fun L383 v375 v376 v377 v378 v379 v380 v381 h382 =>
 bK (ltI v381 v380) fun v384 =>
 condK v384 (
 bK (ixS 3 v379 v381) fun v385 =>
 bK (ldO 3 true h382 v385) fun v386 =>
 mK (alM (NB.cells [(NV.int .i64 (.ofNat 0)), NV.nslice, NV.nslice]) h382) fun v387 h388 =>
 mK (stM 3 v387 v386 h388) fun v389 h390 =>
 bK (nilO v376) fun v391 =>
 bK (fAddr 0 v391) fun v392 =>
 bK (nilO v378) fun v393 =>
 bK (fAddr 11 v393) fun v394 =>
 bK (fAddr 0 v377) fun v395 =>
 bK (ldO 1 false h390 (chkV h390 v395)) fun v396 =>
 bK (fAddr 0 v387) fun v397 =>
 bK (ldO 1 false h390 (chkV h390 v397)) fun v398 =>
 bK (ixS 2 v396 v398) fun v399 =>
 bK (ldO 2 true h390 (chkV h390 v399)) fun v400 =>
 bK (nilO v376) fun v401 =>
 bK (fAddr 6 v401) fun v402 =>
 bK (ldO 1 false h390 (chkV h390 v402)) fun v403 =>
 bK (lenSl v403) fun v404 =>
 bK (bldO [(0, 2), (2, 1), (3, 1)] [NV.nslice, NV.nslice, (NV.int .i64 (.ofNat 0)), (NV.int .i64 (.ofNat 0)), (NV.int .i64 (.ofNat 0))] [v400, v404, v381]) fun v405 =>
 mK (calM call 170 [(chkV h390 v392), (chkV h390 v394), (chkV h390 v405)] h390) fun v406 h407 =>
 nextK h390 h407 (
 bK (addI v381 (NV.int .i64 (.ofNat 1))) fun v408 =>
 L383 v375 v376 v377 v378 v379 v380 v408 h407)) (
 J38 v375 v376 v377 v378 h382)) v24 v25 v26 v27 v31 v32 (NV.int .i64 (.ofNat 0)) h28) fun J29 =>
 loopC N 7 (fun L417 v409 v410 v411 v412 v413 v414 v415 h416 =>
 bK (ltI v415 v414) fun v418 =>
 condK v418 (
 bK (ixS 2 v413 v415) fun v419 =>
 bK (ldO 2 true h416 v419) fun v420 =>
 mK (alM (NB.cells [(NV.int .i64 (.ofNat 0)), (NV.int .i64 (.ofNat 0))]) h416) fun v421 h422 =>
 mK (stM 2 v421 v420 h422) fun v423 h424 =>
 bK (nilO v412) fun v425 =>
 bK (fAddr 11 v425) fun v426 =>
 bK (nilO v412) fun v427 =>
 bK (fAddr 12 v427) fun v428 =>
 bK (nilO v412) fun v429 =>
 bK (fAddr 13 v429) fun v430 =>
 bK (nilO v412) fun v431 =>
 bK (fAddr 14 v431) fun v432 =>
 bK (bldO [(0, 1), (1, 1), (2, 1), (3, 1)] [NV.nilptr, NV.nilptr, NV.nilptr, NV.nilptr] [v426, v428, v430, v432]) fun v433 =>
 mK (alM (NB.cells [NV.nilptr, NV.nilptr, NV.nilptr, NV.nilptr]) h424) fun v434 h435 =>
 mK (stM 4 (chkV h435 v434) (chkV h435 v433) h435) fun v436 h437 =>
 nextK h435 h437 (
 bK (fAddr 0 v421) fun v438 =>
 bK (ldO 1 false h437 (chkV h437 v438)) fun v439 =>
 bK (ixA 4 1 v434 v439) fun v440 =>
 bK (ldO 1 false h437 (chkV h437 v440)) fun v441 =>
 bK (fAddr 0 v421) fun v442 =>
 bK (ldO 1 false h437 (chkV h437 v442)) fun v443 =>
 bK (ixA 4 1 v434 v443) fun v444 =>
 bK (ldO 1 false h437 (chkV h437 v444)) fun v445 =>
 bK (nilO v445) fun v446 =>
 bK (ldO 1 false h437 (chkV h437 v446)) fun v447 =>
 bK (fAddr 1 v421) fun v448 =>
 bK (ldO 1 false h437 (chkV h437 v448)) fun v449 =>
 mK (bslM 1 false [(0, 1)] [(NV.int .i64 (.ofNat 0))] [(chkV h437 v449)] h437) fun v450 h451 =>
 mK (appM Tryz.prog 3 (chkV h451 v447) (chkV h451 v450) h451) fun v452 h453 =>
 nextK h451 h453 (
 bK (nilO v441) fun v454 =>
 bK (ldO 1 false h453 (chkV h453 v438)) fun v455 =>
 sameK v455 v439 (
 bK (ldO 1 false h453 (chkV h453 v440)) fun v456 =>
 sameK v456 v441 (
 mK (stM 1 (chkV h453 v454) (chkV h453 v452) h453) fun v457 h458 =>
 nextK h453 h458 (
 bK (addI v415 (NV.int .i64 (.ofNat 1))) fun v459 =>
 L417 v409 v410 v411 v412 v413 v414 v459 h458)))))) (
 J29 v409 v410 v411 v412 h416)) v0 v6 v13 v12 v2 v23 (NV.int .i64 (.ofNat 0)) h22)))
theorem e80 : ikB Tryz.prog 9 Tryz.f80 = S80 := by kernel_rfl
theorem k80 [Sig] (w0 : World) : SOK cW w0 80 S80 := okW Tryz.func80 (by kernel_rfl) e80
noncomputable def S81 (call : CallF) (N : Nat) (l : List NV) (h : H) : R :=
 uc l fun v0 l1 => un l1 (
 bK (nilO v0) fun v2 =>
 bK (fAddr 1 v2) fun v3 =>
 bK (fAddr 8 v3) fun v4 =>
 bK (ldO 1 false h v4) fun v5 =>
 bK (lenSl v5) fun v6 =>
 joinC 1 (fun v7 h8 =>
 bK (nilO v7) fun v10 =>
 bK (fAddr 1 v10) fun v11 =>
 bK (fAddr 9 v11) fun v12 =>
 bK (ldO 1 false h8 v12) fun v13 =>
 bK (lenSl v13) fun v14 =>
 joinC 0 (fun h15 =>
 retC (NV.int .i64 (.ofNat 0)) h15) fun J16 =>
 loopC N 4 (fun L22 v17 v18 v19 v20 h21 =>
 bK (ltI v20 v19) fun v23 =>
 condK v23 (
 joinC 4 (fun v24 v25 v26 v27 h28 =>
 bK (addI v27 (NV.int .i64 (.ofNat 1))) fun v30 =>
 L22 v24 v25 v26 v30 h28) fun J29 =>
 bK (ixS 4 v18 v20) fun v31 =>
 bK (ldO 4 true h21 v31) fun v32 =>
 mK (alM (NB.cells [(NV.int .i64 (.ofNat 0)), (NV.int .i64 (.ofNat 0)), NV.nslice, NV.nslice]) h21) fun v33 h34 =>
 mK (stM 4 v33 v32 h34) fun v35 h36 =>
 bK (fAddr 0 v33) fun v37 =>
 bK (ldO 1 false h36 v37) fun v38 =>
 bK (neI v38 (NV.int .i64 (.ofNat 0))) fun v39 =>
 condK v39 (
 J29 v17 v18 v19 v20 h36) (
 bK (nilO v17) fun v40 =>
 bK (fAddr 12 v40) fun v41 =>
 bK (ldO 1 false h36 v41) fun v42 =>
 bK (nilO v42) fun v43 =>
 bK (fAddr 16 v43) fun v44 =>
 bK (ldO 1 false h36 v44) fun v45 =>
 bK (ixS 1 v45 v20) fun v46 =>
 bK (ldO 1 false h36 v46) fun v47 =>
 bK (nilO v17) fun v48 =>
 bK (fAddr 0 v48) fun v49 =>
 bK (ldO 1 false h36 v49) fun v50 =>
 bK (nilO v50) fun v51 =>
 bK (fAddr 5 v51) fun v52 =>
 bK (ldO 1 false h36 v52) fun v53 =>
 bK (ixS 1 v53 v47) fun v54 =>
 bK (ldO 1 false h36 v54) fun v55 =>
 bK (nilO v17) fun v56 =>
 bK (fAddr 0 v56) fun v57 =>
 bK (ldO 1 false h36 (chkV h36 v57)) fun v58 =>
 bK (nilO v58) fun v59 =>
 bK (fAddr 2 v59) fun v60 =>
 bK (ldO 1 false h36 (chkV h36 v60)) fun v61 =>
 bK (nilO v17) fun v62 =>
 bK (fAddr 12 v62) fun v63 =>
 bK (ldO 1 false h36 (chkV h36 v63)) fun v64 =>
 bK (nilO v64) fun v65 =>
 bK (fAddr 13 v65) fun v66 =>
 bK (ldO 1 false h36 (chkV h36 v66)) fun v67 =>
 bK (fAddr 1 v33) fun v68 =>
 bK (ldO 1 false h36 (chkV h36 v68)) fun v69 =>
 bK (ixS 1 v67 v69) fun v70 =>
 bK (ldO 1 false h36 (chkV h36 v70)) fun v71 =>
 bK (ixS 1 v61 v71) fun v72 =>
 bK (ldO 1 false h36 (chkV h36 v72)) fun v73 =>
 bK (fAddr 2 v33) fun v74 =>
 bK (ldO 1 false h36 (chkV h36 v74)) fun v75 =>
 mK (calM call 174 [(chkV h36 v17), (chkV h36 v75)] h36) fun v76 h77 =>
 nextK h36 h77 (
 bK (fldO false 1 1 v76) fun v78 =>
 bK (ldO 1 false h77 (chkV h77 v57)) fun v79 =>
 sameK v79 v58 (
 bK (ldO 1 false h77 (chkV h77 v60)) fun v80 =>
 sameK v80 v61 (
 bK (ldO 1 false h77 (chkV h77 v63)) fun v81 =>
 sameK v81 v64 (
 bK (ldO 1 false h77 (chkV h77 v66)) fun v82 =>
 sameK v82 v67 (
 bK (ldO 1 false h77 (chkV h77 v68)) fun v83 =>
 sameK v83 v69 (
 bK (ldO 1 false h77 (chkV h77 v70)) fun v84 =>
 sameK v84 v71 (
 bK (ldO 1 false h77 (chkV h77 v72)) fun v85 =>
 sameK v85 v73 (
 mK (calM call 41 [(chkV h77 v73), (chkV h77 v78), (chkV h77 v55)] h77) fun v86 h87 =>
 nextK h77 h87 (
 bK (neI v86 (NV.int .i64 (.ofNat 0))) fun v88 =>
 condK v88 (
 retC v86 h87) (
 bK (nilO v17) fun v89 =>
 bK (fAddr 0 v89) fun v90 =>
 bK (ldO 1 false h87 v90) fun v91 =>
 bK (nilO v91) fun v92 =>
 bK (fAddr 5 v92) fun v93 =>
 bK (ldO 1 false h87 v93) fun v94 =>
 bK (ixS 1 v94 v47) fun v95 =>
 mK (stM 1 v95 NV.nslice h87) fun v96 h97 =>
 J29 v17 v18 v19 v20 h97)))))))))))) (
 J16 h21)) v7 v13 v14 (NV.int .i64 (.ofNat 0)) h8) fun J9 =>
 loopC N 4 (fun L103 v98 v99 v100 v101 h102 =>
 bK (ltI v101 v100) fun v104 =>
 condK v104 (
 joinC 4 (fun v105 v106 v107 v108 h109 =>
 bK (addI v108 (NV.int .i64 (.ofNat 1))) fun v111 =>
 L103 v105 v106 v107 v111 h109) fun J110 =>
 bK (ixS 5 v99 v101) fun v112 =>
 bK (ldO 5 true h102 v112) fun v113 =>
 mK (alM (NB.cells [(NV.int .i64 (.ofNat 0)), (NV.int .i64 (.ofNat 0)), (NV.int .i64 (.ofNat 0)), NV.nslice, NV.nslice]) h102) fun v114 h115 =>
 mK (stM 5 v114 v113 h115) fun v116 h117 =>
 bK (fAddr 1 v114) fun v118 =>
 bK (ldO 1 false h117 v118) fun v119 =>
 bK (neI v119 (NV.int .i64 (.ofNat 0))) fun v120 =>
 condK v120 (
 J110 v98 v99 v100 v101 h117) (
 bK (nilO v98) fun v121 =>
 bK (fAddr 12 v121) fun v122 =>
 bK (ldO 1 false h117 v122) fun v123 =>
 bK (nilO v123) fun v124 =>
 bK (fAddr 15 v124) fun v125 =>
 bK (ldO 1 false h117 v125) fun v126 =>
 bK (ixS 1 v126 v101) fun v127 =>
 bK (ldO 1 false h117 v127) fun v128 =>
 bK (nilO v98) fun v129 =>
 bK (fAddr 0 v129) fun v130 =>
 bK (ldO 1 false h117 v130) fun v131 =>
 bK (nilO v131) fun v132 =>
 bK (fAddr 4 v132) fun v133 =>
 bK (ldO 1 false h117 v133) fun v134 =>
 bK (ixS 1 v134 v128) fun v135 =>
 bK (ldO 1 false h117 v135) fun v136 =>
 bK (nilO v98) fun v137 =>
 bK (fAddr 0 v137) fun v138 =>
 bK (ldO 1 false h117 (chkV h117 v138)) fun v139 =>
 bK (nilO v139) fun v140 =>
 bK (fAddr 1 v140) fun v141 =>
 bK (ldO 1 false h117 (chkV h117 v141)) fun v142 =>
 bK (nilO v98) fun v143 =>
 bK (fAddr 12 v143) fun v144 =>
 bK (ldO 1 false h117 (chkV h117 v144)) fun v145 =>
 bK (nilO v145) fun v146 =>
 bK (fAddr 12 v146) fun v147 =>
 bK (ldO 1 false h117 (chkV h117 v147)) fun v148 =>
 bK (fAddr 2 v114) fun v149 =>
 bK (ldO 1 false h117 (chkV h117 v149)) fun v150 =>
 bK (ixS 1 v148 v150) fun v151 =>
 bK (ldO 1 false h117 (chkV h117 v151)) fun v152 =>
 bK (ixS 1 v142 v152) fun v153 =>
 bK (ldO 1 false h117 (chkV h117 v153)) fun v154 =>
 bK (fAddr 3 v114) fun v155 =>
 bK (ldO 1 false h117 (chkV h117 v155)) fun v156 =>
 bK (lenSl v136) fun v157 =>
 bK (cvI .u64 v157) fun v158 =>
 mK (calM call 174 [(chkV h117 v98), (chkV h117 v156)] h117) fun v159 h160 =>
 nextK h117 h160 (
 bK (fldO false 1 1 v159) fun v161 =>
 bK (ldO 1 false h160 (chkV h160 v138)) fun v162 =>
 sameK v162 v139 (
 bK (ldO 1 false h160 (chkV h160 v141)) fun v163 =>
 sameK v163 v142 (
 bK (ldO 1 false h160 (chkV h160 v144)) fun v164 =>
 sameK v164 v145 (
 bK (ldO 1 false h160 (chkV h160 v147)) fun v165 =>
 sameK v165 v148 (
 bK (ldO 1 false h160 (chkV h160 v149)) fun v166 =>
 sameK v166 v150 (
 bK (ldO 1 false h160 (chkV h160 v151)) fun v167 =>
 sameK v167 v152 (
 bK (ldO 1 false h160 (chkV h160 v153)) fun v168 =>
 sameK v168 v154 (
 mK (calM call 177 [(chkV h160 v154), (chkV h160 v161), (NV.int .u64 (.ofNat 0)), (chkV h160 v158), (chkV h160 v136)] h160) fun v169 h170 =>
 nextK h160 h170 (
 bK (neI v169 (NV.int .i64 (.ofNat 0))) fun v171 =>
 condK v171 (
 retC v169 h170) (
 bK (nilO v98) fun v172 =>
 bK (fAddr 0 v172) fun v173 =>
 bK (ldO 1 false h170 v173) fun v174 =>
 bK (nilO v174) fun v175 =>
 bK (fAddr 4 v175) fun v176 =>
 bK (ldO 1 false h170 v176) fun v177 =>
 bK (ixS 1 v177 v128) fun v178 =>
 mK (stM 1 v178 NV.nslice h170) fun v179 h180 =>
 J110 v98 v99 v100 v101 h180)))))))))))) (
 J9 v98 h102)) v0 v5 v6 (NV.int .i64 (.ofNat 0)) h)
theorem e81 : ikB Tryz.prog 9 Tryz.f81 = S81 := by kernel_rfl
theorem k81 [Sig] (w0 : World) : SOK cW w0 81 S81 := okW Tryz.func81 (by kernel_rfl) e81
noncomputable def S85 (call : CallF) (N : Nat) (l : List NV) (h : H) : R :=
 uc l fun v0 l1 => uc l1 fun v2 l3 => uc l3 fun v4 l5 => un l5 (
 bK (cvI .u64 v4) fun v6 =>
 bK (leI v0 v6) fun v7 =>
 jK (fun v8 h9 =>
 jK (fun v11 h12 =>
 jK (fun v14 h15 =>
 jK (fun v17 h18 =>
 jK (fun v20 h21 =>
 jK (fun v23 h24 =>
 bK (pickO v7 v23 (NV.bool false)) fun v26 =>
 retC v26 h24) fun J25 => gK v7 true (
 bK (leI v8 v20) fun v27 =>
 J25 v27 h21) (J25 (NV.tuple []) h21)) fun J22 => gK v7 true (
 bK (subI v14 v17) fun v28 =>
 J22 v28 h18) (J22 (NV.tuple []) h18)) fun J19 => gK v7 true (
 J19 v0 h15) (J19 (NV.tuple []) h15)) fun J16 => gK v7 true (
 bK (cvI .u64 v11) fun v29 =>
 J16 v29 h12) (J16 (NV.tuple []) h12)) fun J13 => gK v7 true (
 J13 v4 h9) (J13 (NV.tuple []) h9)) fun J10 => gK v7 true (
 J10 v2 h) (J10 (NV.tuple []) h))
theorem e85 : ikB Tryz.prog 9 Tryz.f85 = S85 := by kernel_rfl
theorem k85 [Sig] (w0 : World) : SOK cW w0 85 S85 := okW Tryz.func85 (by kernel_rfl) e85
noncomputable def S90 (call : CallF) (N : Nat) (l : List NV) (h : H) : R :=
 uc l fun v0 l1 => un l1 (
 bK (eqD Tryz.prog .eql 150 h v0 NV.nilptr) fun v2 =>
 condK v2 (
 retC NV.nslice h) (
 bK (nilO v0) fun v3 =>
 bK (fAddr 0 v3) fun v4 =>
 bK (ldO 1 false h v4) fun v5 =>
 retC v5 h))
theorem e90 : ikB Tryz.prog 9 Tryz.f90 = S90 := by kernel_rfl
theorem k90 [Sig] (w0 : World) : SOK cW w0 90 S90 := okW Tryz.func90 (by kernel_rfl) e90
noncomputable def S128 (call : CallF) (N : Nat) (l : List NV) (h : H) : R :=
 uc l fun v0 l1 => uc l1 fun v2 l3 => un l3 (
 mK (boxM false v2 h) fun v4 h5 =>
 mK (calM call 201 [v0, (NV.func (.func 202) [] [v4])] h5) fun v6 h7 =>
 bK (notO v6) fun v8 =>
 retC v8 h7)
theorem e128 : ikB Tryz.prog 9 Tryz.f128 = S128 := by kernel_rfl
theorem k128 [Sig] (w0 : World) : SOK cW w0 128 S128 := okW Tryz.func128 (by kernel_rfl) e128
noncomputable def S129 (call : CallF) (N : Nat) (l : List NV) (h : H) : R :=
 uc l fun v0 l1 => uc l1 fun v2 l3 => un l3 (
 mK (boxM false v2 h) fun v4 h5 =>
 mK (calM call 203 [v0, (NV.func (.func 204) [] [v4])] h5) fun v6 h7 =>
 bK (notO v6) fun v8 =>
 retC v8 h7)
theorem e129 : ikB Tryz.prog 9 Tryz.f129 = S129 := by kernel_rfl
theorem k129 [Sig] (w0 : World) : SOK cW w0 129 S129 := okW Tryz.func129 (by kernel_rfl) e129
noncomputable def S131 (call : CallF) (N : Nat) (l : List NV) (h : H) : R :=
 uc l fun v0 l1 => uc l1 fun v2 l3 => un l3 (
 mK (boxM false v2 h) fun v4 h5 =>
 mK (calM call 205 [v0, (NV.func (.func 206) [] [v4])] h5) fun v6 h7 =>
 bK (notO v6) fun v8 =>
 retC v8 h7)
theorem e131 : ikB Tryz.prog 9 Tryz.f131 = S131 := by kernel_rfl
theorem k131 [Sig] (w0 : World) : SOK cW w0 131 S131 := okW Tryz.func131 (by kernel_rfl) e131
noncomputable def S132 (call : CallF) (N : Nat) (l : List NV) (h : H) : R :=
 uc l fun v0 l1 => uc l1 fun v2 l3 => un l3 (
 mK (boxM false v2 h) fun v4 h5 =>
 mK (calM call 77 [v0, (NV.func (.func 207) [] [v4])] h5) fun v6 h7 =>
 bK (notO v6) fun v8 =>
 retC v8 h7)
theorem e132 : ikB Tryz.prog 9 Tryz.f132 = S132 := by kernel_rfl
theorem k132 [Sig] (w0 : World) : SOK cW w0 132 S132 := okW Tryz.func132 (by kernel_rfl) e132
noncomputable def S134 (call : CallF) (N : Nat) (l : List NV) (h : H) : R :=
 uc l fun v0 l1 => uc l1 fun v2 l3 => un l3 (
 mK (boxM false v2 h) fun v4 h5 =>
 mK (calM call 78 [v0, (NV.func (.func 208) [] [v4])] h5) fun v6 h7 =>
 bK (notO v6) fun v8 =>
 retC v8 h7)
theorem e134 : ikB Tryz.prog 9 Tryz.f134 = S134 := by kernel_rfl
theorem k134 [Sig] (w0 : World) : SOK cW w0 134 S134 := okW Tryz.func134 (by kernel_rfl) e134
noncomputable def S136 (call : CallF) (N : Nat) (l : List NV) (h : H) : R :=
 uc l fun v0 l1 => uc l1 fun v2 l3 => un l3 (
 mK (boxM false v2 h) fun v4 h5 =>
 mK (calM call 209 [v0, (NV.func (.func 210) [] [v4])] h5) fun v6 h7 =>
 bK (notO v6) fun v8 =>
 retC v8 h7)
theorem e136 : ikB Tryz.prog 9 Tryz.f136 = S136 := by kernel_rfl
theorem k136 [Sig] (w0 : World) : SOK cW w0 136 S136 := okW Tryz.func136 (by kernel_rfl) e136
noncomputable def S137 (call : CallF) (N : Nat) (l : List NV) (h : H) : R :=
 uc l fun v0 l1 => uc l1 fun v2 l3 => un l3 (
 mK (boxM false v2 h) fun v4 h5 =>
 mK (calM call 211 [v0, (NV.func (.func 212) [] [v4])] h5) fun v6 h7 =>
 bK (notO v6) fun v8 =>
 retC v8 h7)
theorem e137 : ikB Tryz.prog 9 Tryz.f137 = S137 := by kernel_rfl
theorem k137 [Sig] (w0 : World) : SOK cW w0 137 S137 := okW Tryz.func137 (by kernel_rfl) e137
noncomputable def S138 (call : CallF) (N : Nat) (l : List NV) (h : H) : R :=
 uc l fun v0 l1 => uc l1 fun v2 l3 => un l3 (
 mK (boxM false v2 h) fun v4 h5 =>
 mK (calM call 213 [v0, (NV.func (.func 214) [] [v4])] h5) fun v6 h7 =>
 bK (notO v6) fun v8 =>
 retC v8 h7)
theorem e138 : ikB Tryz.prog 9 Tryz.f138 = S138 := by kernel_rfl
theorem k138 [Sig] (w0 : World) : SOK cW w0 138 S138 := okW Tryz.func138 (by kernel_rfl) e138
noncomputable def S139 (call : CallF) (N : Nat) (l : List NV) (h : H) : R :=
 uc l fun v0 l1 => uc l1 fun v2 l3 => un l3 (
 mK (boxM false v2 h) fun v4 h5 =>
 mK (calM call 215 [v0, (NV.func (.func 216) [] [v4])] h5) fun v6 h7 =>
 bK (notO v6) fun v8 =>
 retC v8 h7)
theorem e139 : ikB Tryz.prog 9 Tryz.f139 = S139 := by kernel_rfl
theorem k139 [Sig] (w0 : World) : SOK cW w0 139 S139 := okW Tryz.func139 (by kernel_rfl) e139
noncomputable def S140 (call : CallF) (N : Nat) (l : List NV) (h : H) : R :=
 uc l fun v0 l1 => un l1 (
 mK (boxM false v0 h) fun v2 h3 =>
 mK (alM (NB.cells [NV.nilFunc]) h3) fun v4 h5 =>
 mK (stM 1 v4 (NV.func (.func 217) [] []) h5) fun v6 h7 =>
 bK (fAddr 2 v2) fun v8 =>
 bK (ldO 1 false h7 v8) fun v9 =>
 mK (calM call 131 [v9, (NV.func (.func 219) [] [v4])] h7) fun v10 h11 =>
 bK (notO v10) fun v12 =>
 retC v12 h11)
theorem e140 : ikB Tryz.prog 9 Tryz.f140 = S140 := by kernel_rfl
theorem k140 [Sig] (w0 : World) : SOK cW w0 140 S140 := okW Tryz.func140 (by kernel_rfl) e140
noncomputable def S147 (call : CallF) (N : Nat) (l : List NV) (h : H) : R :=
 uc l fun v0 l1 => un l1 (
 mK (mapM none h) fun v2 h3 =>
 bK (nilO v0) fun v4 =>
 bK (fAddr 0 v4) fun v5 =>
 bK (fAddr 6 v5) fun v6 =>
 bK (ldO 1 false h3 v6) fun v7 =>
 bK (lenSl v7) fun v8 =>
 joinC 0 (fun h9 =>
 retC (NV.bool true) h9) fun J10 =>
 loopC N 5 (fun L17 v11 v12 v13 v14 v15 h16 =>
 bK (ltI v15 v14) fun v18 =>
 condK v18 (
 bK (ixS 3 v13 v15) fun v19 =>
 bK (ldO 3 true h16 v19) fun v20 =>
 mK (alM (NB.cells [(NV.str 0 0), (NV.int .i64 (.ofNat 0)), (NV.int .i64 (.ofNat 0))]) h16) fun v21 h22 =>
 mK (stM 3 v21 v20 h22) fun v23 h24 =>
 bK (nilO v11) fun v25 =>
 bK (fAddr 11 v25) fun v26 =>
 bK (ldO 1 false h24 (chkV h24 v26)) fun v27 =>
 bK (lenSl v27) fun v28 =>
 bK (nilO v11) fun v29 =>
 bK (fAddr 12 v29) fun v30 =>
 bK (ldO 1 false h24 (chkV h24 v30)) fun v31 =>
 bK (lenSl v31) fun v32 =>
 bK (nilO v11) fun v33 =>
 bK (fAddr 13 v33) fun v34 =>
 bK (ldO 1 false h24 (chkV h24 v34)) fun v35 =>
 bK (lenSl v35) fun v36 =>
 bK (nilO v11) fun v37 =>
 bK (fAddr 14 v37) fun v38 =>
 bK (ldO 1 false h24 (chkV h24 v38)) fun v39 =>
 bK (lenSl v39) fun v40 =>
 bK (bldO [(0, 1), (1, 1), (2, 1), (3, 1)] [(NV.int .i64 (.ofNat 0)), (NV.int .i64 (.ofNat 0)), (NV.int .i64 (.ofNat 0)), (NV.int .i64 (.ofNat 0))] [v28, v32, v36, v40]) fun v41 =>
 bK (fAddr 1 v21) fun v42 =>
 bK (ldO 1 false h24 (chkV h24 v42)) fun v43 =>
 bK (ixArr 4 false 1 v41 v43) fun v44 =>
 bK (fAddr 0 v21) fun v45 =>
 bK (ldO 1 false h24 v45) fun v46 =>
 bK (lookO Tryz.prog 9 (NV.bool false) false h24 v12 v46) fun v47 =>
 jK (fun v48 h49 =>
 jK (fun v51 h52 =>
 jK (fun v54 h55 =>
 jK (fun v57 h58 =>
 bK (pickO v47 (NV.bool true) v57) fun v60 =>
 condK v60 (
 retC (NV.bool false) h58) (
 bK (fAddr 0 v21) fun v61 =>
 bK (ldO 1 false h58 v61) fun v62 =>
 mK (updM Tryz.prog 351 v12 v62 (NV.bool true) h58) fun v63 h64 =>
 bK (addI v15 (NV.int .i64 (.ofNat 1))) fun v65 =>
 L17 v11 v12 v13 v14 v65 h64)) fun J59 => gK v47 false (
 bK (geI v51 v54) fun v66 =>
 J59 v66 h55) (J59 (NV.tuple []) h55)) fun J56 => gK v47 false (
 J56 v44 h52) (J56 (NV.tuple []) h52)) fun J53 => gK v47 false (
 bK (ldO 1 false h49 v48) fun v67 =>
 J53 v67 h49) (J53 (NV.tuple []) h49)) fun J50 => gK v47 false (
 bK (fAddr 2 v21) fun v68 =>
 J50 v68 h24) (J50 (NV.tuple []) h24)) (
 J10 h16)) v0 v2 v7 v8 (NV.int .i64 (.ofNat 0)) h3)
theorem e147 : ikB Tryz.prog 9 Tryz.f147 = S147 := by kernel_rfl
theorem k147 [Sig] (w0 : World) : SOK cW w0 147 S147 := okW Tryz.func147 (by kernel_rfl) e147
noncomputable def S148 (call : CallF) (N : Nat) (l : List NV) (h : H) : R :=
 uc l fun v0 l1 => un l1 (
 bK (nilO v0) fun v2 =>
 bK (fAddr 0 v2) fun v3 =>
 bK (fAddr 8 v3) fun v4 =>
 bK (ldO 1 false h v4) fun v5 =>
 bK (lenSl v5) fun v6 =>
 joinC 1 (fun v7 h8 =>
 bK (nilO v7) fun v10 =>
 bK (fAddr 0 v10) fun v11 =>
 bK (fAddr 9 v11) fun v12 =>
 bK (ldO 1 false h8 v12) fun v13 =>
 bK (lenSl v13) fun v14 =>
 joinC 0 (fun h15 =>
 retC (NV.bool true) h15) fun J16 =>
 loopC N 4 (fun L22 v17 v18 v19 v20 h21 =>
 bK (ltI v20 v19) fun v23 =>
 condK v23 (
 bK (ixS 4 v18 v20) fun v24 =>
 bK (ldO 4 true h21 v24) fun v25 =>
 mK (alM (NB.cells [(NV.int .i64 (.ofNat 0)), (NV.int .i64 (.ofNat 0)), NV.nslice, NV.nslice]) h21) fun v26 h27 =>
 mK (stM 4 v26 v25 h27) fun v28 h29 =>
 bK (fAddr 0 v26) fun v30 =>
 bK (ldO 1 false h29 (chkV h29 v30)) fun v31 =>
 bK (eqI v31 (NV.int .i64 (.ofNat 0))) fun v32 =>
 jK (fun v33 h34 =>
 jK (fun v36 h37 =>
 jK (fun v39 h40 =>
 jK (fun v42 h43 =>
 jK (fun v45 h46 =>
 jK (fun v48 h49 =>
 jK (fun v51 h52 =>
 jK (fun v54 h55 =>
 jK (fun v57 h58 =>
 jK (fun v60 h61 =>
 jK (fun v63 h64 =>
 jK (fun v66 h67 =>
 jK (fun v69 h70 =>
 nextK h29 h70 (
 jK (fun v72 h73 =>
 jK (fun v75 h76 =>
 bK (pickO v32 v75 (NV.bool false)) fun v78 =>
 condK v78 (
 retC (NV.bool false) h70) (
 bK (addI v20 (NV.int .i64 (.ofNat 1))) fun v79 =>
 L22 v17 v18 v19 v79 h70)) fun J77 => gK v32 true (
 bK (pickO v57 (NV.bool true) v72) fun v80 =>
 J77 v80 h70) (J77 (NV.tuple []) h70)) fun J74 => gK v57 false (
 bK (notO v69) fun v81 =>
 J74 v81 h70) (J74 (NV.tuple []) h70))) fun J71 => gK v57 false (
 mK (calM call 146 [(chkV h29 v60), (chkV h29 v66), (NV.int .i64 (.ofNat 127))] h29) fun v82 h83 =>
 J71 v82 h83) (J71 (NV.tuple []) h29)) fun J68 => gK v57 false (
 bK (ldO 1 false h29 (chkV h29 v63)) fun v84 =>
 J68 v84 h29) (J68 (NV.tuple []) h29)) fun J65 => gK v57 false (
 bK (fAddr 2 v26) fun v85 =>
 J65 v85 h29) (J65 (NV.tuple []) h29)) fun J62 => gK v57 false (
 J62 v17 h29) (J62 (NV.tuple []) h29)) fun J59 => gK v32 true (
 J59 v54 h29) (J59 (NV.tuple []) h29)) fun J56 => gK v32 true (
 bK (geI v36 v51) fun v86 =>
 J56 v86 h29) (J56 (NV.tuple []) h29)) fun J53 => gK v32 true (
 bK (lenSl v48) fun v87 =>
 J53 v87 h29) (J53 (NV.tuple []) h29)) fun J50 => gK v32 true (
 bK (ldO 1 false h29 (chkV h29 v45)) fun v88 =>
 J50 v88 h29) (J50 (NV.tuple []) h29)) fun J47 => gK v32 true (
 bK (fAddr 13 v42) fun v89 =>
 J47 v89 h29) (J47 (NV.tuple []) h29)) fun J44 => gK v32 true (
 bK (nilO v39) fun v90 =>
 J44 v90 h29) (J44 (NV.tuple []) h29)) fun J41 => gK v32 true (
 J41 v17 h29) (J41 (NV.tuple []) h29)) fun J38 => gK v32 true (
 bK (ldO 1 false h29 (chkV h29 v33)) fun v91 =>
 J38 v91 h29) (J38 (NV.tuple []) h29)) fun J35 => gK v32 true (
 bK (fAddr 1 v26) fun v92 =>
 J35 v92 h29) (J35 (NV.tuple []) h29)) (
 J16 h21)) v7 v13 v14 (NV.int .i64 (.ofNat 0)) h8) fun J9 =>
 loopC N 4 (fun L98 v93 v94 v95 v96 h97 =>
 bK (ltI v96 v95) fun v99 =>
 condK v99 (
 joinC 4 (fun v100 v101 v102 v103 h104 =>
 bK (addI v103 (NV.int .i64 (.ofNat 1))) fun v106 =>
 L98 v100 v101 v102 v106 h104) fun J105 =>
 bK (ixS 5 v94 v96) fun v107 =>
 bK (ldO 5 true h97 v107) fun v108 =>
 mK (alM (NB.cells [(NV.int .i64 (.ofNat 0)), (NV.int .i64 (.ofNat 0)), (NV.int .i64 (.ofNat 0)), NV.nslice, NV.nslice]) h97) fun v109 h110 =>
 mK (stM 5 v109 v108 h110) fun v111 h112 =>
 bK (fAddr 1 v109) fun v113 =>
 bK (ldO 1 false h112 (chkV h112 v113)) fun v114 =>
 bK (eqI v114 (NV.int .i64 (.ofNat 0))) fun v115 =>
 jK (fun v116 h117 =>
 jK (fun v119 h120 =>
 jK (fun v122 h123 =>
 jK (fun v125 h126 =>
 jK (fun v128 h129 =>
 jK (fun v131 h132 =>
 jK (fun v134 h135 =>
 jK (fun v137 h138 =>
 jK (fun v140 h141 =>
 jK (fun v143 h144 =>
 jK (fun v146 h147 =>
 jK (fun v149 h150 =>
 jK (fun v152 h153 =>
 jK (fun v155 h156 =>
 jK (fun v158 h159 =>
 jK (fun v161 h162 =>
 jK (fun v164 h165 =>
 jK (fun v167 h168 =>
 jK (fun v170 h171 =>
 jK (fun v173 h174 =>
 jK (fun v176 h177 =>
 jK (fun v179 h180 =>
 jK (fun v182 h183 =>
 jK (fun v185 h186 =>
 jK (fun v188 h189 =>
 jK (fun v191 h192 =>
 jK (fun v194 h195 =>
 nextK h112 h195 (
 jK (fun v197 h198 =>
 jK (fun v200 h201 =>
 bK (pickO v115 v200 (NV.bool false)) fun v203 =>
 condK v203 (
 retC (NV.bool false) h195) (
 bK (fAddr 4 v109) fun v204 =>
 bK (ldO 1 false h195 v204) fun v205 =>
 bK (lenSl v205) fun v206 =>
 loopC N 8 (fun L216 v207 v208 v209 v210 v211 v212 v213 v214 h215 =>
 bK (ltI v214 v213) fun v217 =>
 condK v217 (
 bK (ixS 1 v212 v214) fun v218 =>
 bK (ldO 1 false h215 v218) fun v219 =>
 bK (fAddr 0 v208) fun v220 =>
 bK (ldO 1 false h215 v220) fun v221 =>
 mK (calM call 146 [v207, v219, v221] h215) fun v222 h223 =>
 bK (notO v222) fun v224 =>
 condK v224 (
 retC (NV.bool false) h223) (
 bK (addI v214 (NV.int .i64 (.ofNat 1))) fun v225 =>
 L216 v207 v208 v209 v210 v211 v212 v213 v225 h223)) (
 J105 v207 v209 v210 v211 h215)) v93 v109 v94 v95 v96 v205 v206 (NV.int .i64 (.ofNat 0)) h195)) fun J202 => gK v115 true (
 bK (pickO v182 (NV.bool true) v197) fun v226 =>
 J202 v226 h195) (J202 (NV.tuple []) h195)) fun J199 => gK v182 false (
 bK (notO v194) fun v227 =>
 J199 v227 h195) (J199 (NV.tuple []) h195))) fun J196 => gK v182 false (
 mK (calM call 146 [(chkV h112 v185), (chkV h112 v191), (NV.int .i64 (.ofNat 127))] h112) fun v228 h229 =>
 J196 v228 h229) (J196 (NV.tuple []) h112)) fun J193 => gK v182 false (
 bK (ldO 1 false h112 (chkV h112 v188)) fun v230 =>
 J193 v230 h112) (J193 (NV.tuple []) h112)) fun J190 => gK v182 false (
 bK (fAddr 3 v109) fun v231 =>
 J190 v231 h112) (J190 (NV.tuple []) h112)) fun J187 => gK v182 false (
 J187 v93 h112) (J187 (NV.tuple []) h112)) fun J184 => gK v115 true (
 J184 v179 h112) (J184 (NV.tuple []) h112)) fun J181 => gK v115 true (
 bK (pickO v140 (NV.bool true) v176) fun v232 =>
 J181 v232 h112) (J181 (NV.tuple []) h112)) fun J178 => gK v140 false (
 bK (neI v167 v173) fun v233 =>
 J178 v233 h112) (J178 (NV.tuple []) h112)) fun J175 => gK v140 false (
 bK (ldO 1 false h112 (chkV h112 v170)) fun v234 =>
 J175 v234 h112) (J175 (NV.tuple []) h112)) fun J172 => gK v140 false (
 bK (fAddr 0 v109) fun v235 =>
 J172 v235 h112) (J172 (NV.tuple []) h112)) fun J169 => gK v140 false (
 bK (ldO 1 false h112 (chkV h112 v164)) fun v236 =>
 J169 v236 h112) (J169 (NV.tuple []) h112)) fun J166 => gK v140 false (
 bK (fAddr 0 v161) fun v237 =>
 J166 v237 h112) (J166 (NV.tuple []) h112)) fun J163 => gK v140 false (
 bK (ixS 4 v152 v158) fun v238 =>
 J163 v238 h112) (J163 (NV.tuple []) h112)) fun J160 => gK v140 false (
 bK (ldO 1 false h112 (chkV h112 v155)) fun v239 =>
 J160 v239 h112) (J160 (NV.tuple []) h112)) fun J157 => gK v140 false (
 bK (fAddr 2 v109) fun v240 =>
 J157 v240 h112) (J157 (NV.tuple []) h112)) fun J154 => gK v140 false (
 bK (ldO 1 false h112 (chkV h112 v149)) fun v241 =>
 J154 v241 h112) (J154 (NV.tuple []) h112)) fun J151 => gK v140 false (
 bK (fAddr 12 v146) fun v242 =>
 J151 v242 h112) (J151 (NV.tuple []) h112)) fun J148 => gK v140 false (
 bK (nilO v143) fun v243 =>
 J148 v243 h112) (J148 (NV.tuple []) h112)) fun J145 => gK v140 false (
 J145 v93 h112) (J145 (NV.tuple []) h112)) fun J142 => gK v115 true (
 J142 v137 h112) (J142 (NV.tuple []) h112)) fun J139 => gK v115 true (
 bK (geI v119 v134) fun v244 =>
 J139 v244 h112) (J139 (NV.tuple []) h112)) fun J136 => gK v115 true (
 bK (lenSl v131) fun v245 =>
 J136 v245 h112) (J136 (NV.tuple []) h112)) fun J133 => gK v115 true (
 bK (ldO 1 false h112 (chkV h112 v128)) fun v246 =>
 J133 v246 h112) (J133 (NV.tuple []) h112)) fun J130 => gK v115 true (
 bK (fAddr 12 v125) fun v247 =>
 J130 v247 h112) (J130 (NV.tuple []) h112)) fun J127 => gK v115 true (
 bK (nilO v122) fun v248 =>
 J127 v248 h112) (J127 (NV.tuple []) h112)) fun J124 => gK v115 true (
 J124 v93 h112) (J124 (NV.tuple []) h112)) fun J121 => gK v115 true (
 bK (ldO 1 false h112 (chkV h112 v116)) fun v249 =>
 J121 v249 h112) (J121 (NV.tuple []) h112)) fun J118 => gK v115 true (
 bK (fAddr 2 v109) fun v250 =>
 J118 v250 h112) (J118 (NV.tuple []) h112)) (
 J9 v93 h97)) v0 v5 v6 (NV.int .i64 (.ofNat 0)) h)
theorem e148 : ikB Tryz.prog 9 Tryz.f148 = S148 := by kernel_rfl
theorem k148 [Sig] (w0 : World) : SOK cW w0 148 S148 := okW Tryz.func148 (by kernel_rfl) e148
noncomputable def S149 (call : CallF) (N : Nat) (l : List NV) (h : H) : R :=
 uc l fun v0 l1 => un l1 (
 bK (nilO v0) fun v2 =>
 bK (fAddr 0 v2) fun v3 =>
 bK (fAddr 2 v3) fun v4 =>
 bK (ldO 1 false h v4) fun v5 =>
 bK (lenSl v5) fun v6 =>
 joinC 0 (fun h7 =>
 retC (NV.bool true) h7) fun J8 =>
 loopC N 4 (fun L14 v9 v10 v11 v12 h13 =>
 bK (ltI v12 v11) fun v15 =>
 condK v15 (
 bK (ixS 3 v10 v12) fun v16 =>
 bK (ldO 3 true h13 v16) fun v17 =>
 mK (alM (NB.cells [(NV.int .i64 (.ofNat 0)), NV.nslice, NV.nslice]) h13) fun v18 h19 =>
 mK (stM 3 v18 v17 h19) fun v20 h21 =>
 bK (nilO v9) fun v22 =>
 bK (fAddr 11 v22) fun v23 =>
 bK (ldO 1 false h21 (chkV h21 v23)) fun v24 =>
 bK (lenSl v24) fun v25 =>
 bK (nilO v9) fun v26 =>
 bK (fAddr 0 v26) fun v27 =>
 bK (fAddr 2 v27) fun v28 =>
 bK (ldO 1 false h21 (chkV h21 v28)) fun v29 =>
 bK (lenSl v29) fun v30 =>
 bK (subI v25 v30) fun v31 =>
 bK (addI v31 v12) fun v32 =>
 mK (calM call 142 [(chkV h21 v9), (chkV h21 v32)] h21) fun v33 h34 =>
 nextK h21 h34 (
 bK (extO 0 v33) fun v35 =>
 bK (extO 1 v33) fun v36 =>
 mK (alM (NB.cells [NV.nslice, NV.nslice]) h34) fun v37 h38 =>
 mK (stM 2 (chkV h38 v37) (chkV h38 v35) h38) fun v39 h40 =>
 nextK h38 h40 (
 bK (fAddr 0 v37) fun v41 =>
 bK (ldO 1 false h40 (chkV h40 v41)) fun v42 =>
 bK (fAddr 1 v18) fun v43 =>
 bK (ldO 1 false h40 (chkV h40 v43)) fun v44 =>
 bK (fAddr 1 v37) fun v45 =>
 bK (ldO 1 false h40 (chkV h40 v45)) fun v46 =>
 mK (bslM 2 false [(0, 1), (1, 1)] [NV.nslice, NV.nslice] [(chkV h40 v42), (chkV h40 v44)] h40) fun v47 h48 =>
 mK (calM call 221 [(chkV h48 v47)] h48) fun v49 h50 =>
 nextK h48 h50 (
 bK (bldO [(0, 1), (1, 1), (2, 1), (6, 1)] [NV.nilptr, NV.nslice, NV.nslice, NV.nslice, NV.nslice, (NV.bool false), (NV.bool false)] [v9, v49, v46, (NV.bool true)]) fun v51 =>
 bK (ldO 1 false h50 (chkV h50 v45)) fun v52 =>
 sameK v52 v46 (
 mK (boxM false (chkV h50 v51) h50) fun v53 h54 =>
 bK (fAddr 1 v37) fun v55 =>
 bK (ldO 1 false h54 v55) fun v56 =>
 bK (fAddr 1 v37) fun v57 =>
 bK (ldO 1 false h54 v57) fun v58 =>
 bK (fAddr 2 v18) fun v59 =>
 bK (ldO 1 false h54 v59) fun v60 =>
 mK (calM call 222 [v53, NV.nslice, v56, v58, v60] h54) fun v61 h62 =>
 bK (nilO v53) fun v63 =>
 bK (fAddr 6 v63) fun v64 =>
 bK (ldO 1 false h62 v64) fun v65 =>
 bK (notO v65) fun v66 =>
 condK v66 (
 retC (NV.bool false) h62) (
 bK (addI v12 (NV.int .i64 (.ofNat 1))) fun v67 =>
 L14 v9 v10 v11 v67 h62)))))) (
 J8 h13)) v0 v5 v6 (NV.int .i64 (.ofNat 0)) h)
theorem e149 : ikB Tryz.prog 9 Tryz.f149 = S149 := by kernel_rfl
theorem k149 [Sig] (w0 : World) : SOK cW w0 149 S149 := okW Tryz.func149 (by kernel_rfl) e149
noncomputable def S157 (call : CallF) (N : Nat) (l : List NV) (h : H) : R :=
 uc l fun v0 l1 => uc l1 fun v2 l3 => un l3 (
 bK (lenSl v0) fun v4 =>
 joinC 0 (fun h5 =>
 retC (NV.int .i64 (.negSucc 0)) h5) fun J6 =>
 loopC N 4 (fun L12 v7 v8 v9 v10 h11 =>
 bK (ltI v10 v9) fun v13 =>
 condK v13 (
 bK (ixS 4 v7 v10) fun v14 =>
 bK (ldO 4 true h11 v14) fun v15 =>
 mK (calV call v8 [v15] h11) fun v16 h17 =>
 condK v16 (
 retC v10 h17) (
 bK (addI v10 (NV.int .i64 (.ofNat 1))) fun v18 =>
 L12 v7 v8 v9 v18 h17)) (
 J6 h11)) v0 v2 v4 (NV.int .i64 (.ofNat 0)) h)
theorem e157 : ikB Tryz.prog 9 Tryz.f157 = S157 := by kernel_rfl
theorem k157 [Sig] (w0 : World) : SOK cW w0 157 S157 := okW Tryz.func157 (by kernel_rfl) e157
noncomputable def S158 (call : CallF) (N : Nat) (l : List NV) (h : H) : R :=
 uc l fun v0 l1 => uc l1 fun v2 l3 => un l3 (
 bK (lenSl v0) fun v4 =>
 joinC 0 (fun h5 =>
 retC (NV.int .i64 (.negSucc 0)) h5) fun J6 =>
 loopC N 4 (fun L12 v7 v8 v9 v10 h11 =>
 bK (ltI v10 v9) fun v13 =>
 condK v13 (
 bK (ixS 3 v7 v10) fun v14 =>
 bK (ldO 3 true h11 v14) fun v15 =>
 mK (calV call v8 [v15] h11) fun v16 h17 =>
 condK v16 (
 retC v10 h17) (
 bK (addI v10 (NV.int .i64 (.ofNat 1))) fun v18 =>
 L12 v7 v8 v9 v18 h17)) (
 J6 h11)) v0 v2 v4 (NV.int .i64 (.ofNat 0)) h)
theorem e158 : ikB Tryz.prog 9 Tryz.f158 = S158 := by kernel_rfl
theorem k158 [Sig] (w0 : World) : SOK cW w0 158 S158 := okW Tryz.func158 (by kernel_rfl) e158
noncomputable def S159 (call : CallF) (N : Nat) (l : List NV) (h : H) : R :=
 uc l fun v0 l1 => un l1 (
 bK (eqD Tryz.prog .eql 92 h v0 NV.nslice) fun v2 =>
 condK v2 (
 retC NV.nslice h) (
 mK (bslM 0 false [] [] [] h) fun v3 h4 =>
 mK (appM Tryz.prog 48 v3 v0 h4) fun v5 h6 =>
 retC v5 h6))
theorem e159 : ikB Tryz.prog 9 Tryz.f159 = S159 := by kernel_rfl
theorem k159 [Sig] (w0 : World) : SOK cW w0 159 S159 := okW Tryz.func159 (by kernel_rfl) e159
noncomputable def S160 (call : CallF) (N : Nat) (l : List NV) (h : H) : R :=
 uc l fun v0 l1 => un l1 (
 bK (eqD Tryz.prog .eql 93 h v0 NV.nslice) fun v2 =>
 condK v2 (
 retC NV.nslice h) (
 mK (bslM 0 false [] [] [] h) fun v3 h4 =>
 mK (appM Tryz.prog 182 v3 v0 h4) fun v5 h6 =>
 retC v5 h6))
theorem e160 : ikB Tryz.prog 9 Tryz.f160 = S160 := by kernel_rfl
theorem k160 [Sig] (w0 : World) : SOK cW w0 160 S160 := okW Tryz.func160 (by kernel_rfl) e160
noncomputable def S161 (call : CallF) (N : Nat) (l : List NV) (h : H) : R :=
 uc l fun v0 l1 => un l1 (
 bK (eqD Tryz.prog .eql 94 h v0 NV.nslice) fun v2 =>
 condK v2 (
 retC NV.nslice h) (
 mK (bslM 0 false [] [] [] h) fun v3 h4 =>
 mK (appM Tryz.prog 166 v3 v0 h4) fun v5 h6 =>
 retC v5 h6))
theorem e161 : ikB Tryz.prog 9 Tryz.f161 = S161 := by kernel_rfl
theorem k161 [Sig] (w0 : World) : SOK cW w0 161 S161 := okW Tryz.func161 (by kernel_rfl) e161
noncomputable def S162 (call : CallF) (N : Nat) (l : List NV) (h : H) : R :=
 uc l fun v0 l1 => un l1 (
 bK (eqD Tryz.prog .eql 95 h v0 NV.nslice) fun v2 =>
 condK v2 (
 retC NV.nslice h) (
 mK (bslM 0 false [] [] [] h) fun v3 h4 =>
 mK (appM Tryz.prog 57 v3 v0 h4) fun v5 h6 =>
 retC v5 h6))
theorem e162 : ikB Tryz.prog 9 Tryz.f162 = S162 := by kernel_rfl
theorem k162 [Sig] (w0 : World) : SOK cW w0 162 S162 := okW Tryz.func162 (by kernel_rfl) e162
noncomputable def S163 (call : CallF) (N : Nat) (l : List NV) (h : H) : R :=
 uc l fun v0 l1 => un l1 (
 bK (eqD Tryz.prog .eql 96 h v0 NV.nslice) fun v2 =>
 condK v2 (
 retC NV.nslice h) (
 mK (bslM 0 false [] [] [] h) fun v3 h4 =>
 mK (appM Tryz.prog 55 v3 v0 h4) fun v5 h6 =>
 retC v5 h6))
theorem e163 : ikB Tryz.prog 9 Tryz.f163 = S163 := by kernel_rfl
theorem k163 [Sig] (w0 : World) : SOK cW w0 163 S163 := okW Tryz.func163 (by kernel_rfl) e163
noncomputable def S164 (call : CallF) (N : Nat) (l : List NV) (h : H) : R :=
 uc l fun v0 l1 => un l1 (
 bK (eqD Tryz.prog .eql 97 h v0 NV.nslice) fun v2 =>
 condK v2 (
 retC NV.nslice h) (
 mK (bslM 0 false [] [] [] h) fun v3 h4 =>
 mK (appM Tryz.prog 228 v3 v0 h4) fun v5 h6 =>
 retC v5 h6))
theorem e164 : ikB Tryz.prog 9 Tryz.f164 = S164 := by kernel_rfl
theorem k164 [Sig] (w0 : World) : SOK cW w0 164 S164 := okW Tryz.func164 (by kernel_rfl) e164
noncomputable def S165 (call : CallF) (N : Nat) (l : List NV) (h : H) : R :=
 uc l fun v0 l1 => un l1 (
 bK (eqD Tryz.prog .eql 98 h v0 NV.nslice) fun v2 =>
 condK v2 (
 retC NV.nslice h) (
 mK (bslM 0 false [] [] [] h) fun v3 h4 =>
 mK (appM Tryz.prog 187 v3 v0 h4) fun v5 h6 =>
 retC v5 h6))
theorem e165 : ikB Tryz.prog 9 Tryz.f165 = S165 := by kernel_rfl
theorem k165 [Sig] (w0 : World) : SOK cW w0 165 S165 := okW Tryz.func165 (by kernel_rfl) e165
noncomputable def S166 (call : CallF) (N : Nat) (l : List NV) (h : H) : R :=
 uc l fun v0 l1 => un l1 (
 bK (eqD Tryz.prog .eql 99 h v0 NV.nslice) fun v2 =>
 condK v2 (
 retC NV.nslice h) (
 mK (bslM 0 false [] [] [] h) fun v3 h4 =>
 mK (appM Tryz.prog 235 v3 v0 h4) fun v5 h6 =>
 retC v5 h6))
theorem e166 : ikB Tryz.prog 9 Tryz.f166 = S166 := by kernel_rfl
theorem k166 [Sig] (w0 : World) : SOK cW w0 166 S166 := okW Tryz.func166 (by kernel_rfl) e166
noncomputable def S167 (call : CallF) (N : Nat) (l : List NV) (h : H) : R :=
 uc l fun v0 l1 => un l1 (
 bK (eqD Tryz.prog .eql 100 h v0 NV.nslice) fun v2 =>
 condK v2 (
 retC NV.nslice h) (
 mK (bslM 0 false [] [] [] h) fun v3 h4 =>
 mK (appM Tryz.prog 241 v3 v0 h4) fun v5 h6 =>
 retC v5 h6))
theorem e167 : ikB Tryz.prog 9 Tryz.f167 = S167 := by kernel_rfl
theorem k167 [Sig] (w0 : World) : SOK cW w0 167 S167 := okW Tryz.func167 (by kernel_rfl) e167
noncomputable def S201 (call : CallF) (N : Nat) (l : List NV) (h : H) : R :=
 uc l fun v0 l1 => uc l1 fun v2 l3 => un l3 (
 mK (calM call 245 [v0, v2] h) fun v4 h5 =>
 bK (geI v4 (NV.int .i64 (.ofNat 0))) fun v6 =>
 retC v6 h5)
theorem e201 : ikB Tryz.prog 9 Tryz.f201 = S201 := by kernel_rfl
theorem k201 [Sig] (w0 : World) : SOK cW w0 201 S201 := okW Tryz.func201 (by kernel_rfl) e201
noncomputable def S203 (call : CallF) (N : Nat) (l : List NV) (h : H) : R :=
 uc l fun v0 l1 => uc l1 fun v2 l3 => un l3 (
 mK (calM call 246 [v0, v2] h) fun v4 h5 =>
 bK (geI v4 (NV.int .i64 (.ofNat 0))) fun v6 =>
 retC v6 h5)
theorem e203 : ikB Tryz.prog 9 Tryz.f203 = S203 := by kernel_rfl
theorem k203 [Sig] (w0 : World) : SOK cW w0 203 S203 := okW Tryz.func203 (by kernel_rfl) e203
noncomputable def S205 (call : CallF) (N : Nat) (l : List NV) (h : H) : R :=
 uc l fun v0 l1 => uc l1 fun v2 l3 => un l3 (
 mK (calM call 247 [v0, v2] h) fun v4 h5 =>
 bK (geI v4 (NV.int .i64 (.ofNat 0))) fun v6 =>
 retC v6 h5)
theorem e205 : ikB Tryz.prog 9 Tryz.f205 = S205 := by kernel_rfl
theorem k205 [Sig] (w0 : World) : SOK cW w0 205 S205 := okW Tryz.func205 (by kernel_rfl) e205
noncomputable def S209 (call : CallF) (N : Nat) (l : List NV) (h : H) : R :=
 uc l fun v0 l1 => uc l1 fun v2 l3 => un l3 (
 mK (calM call 248 [v0, v2] h) fun v4 h5 =>
 bK (geI v4 (NV.int .i64 (.ofNat 0))) fun v6 =>
 retC v6 h5)
theorem e209 : ikB Tryz.prog 9 Tryz.f209 = S209 := by kernel_rfl
theorem k209 [Sig] (w0 : World) : SOK cW w0 209 S209 := okW Tryz.func209 (by kernel_rfl) e209
noncomputable def S211 (call : CallF) (N : Nat) (l : List NV) (h : H) : R :=
 uc l fun v0 l1 => uc l1 fun v2 l3 => un l3 (
 mK (calM call 249 [v0, v2] h) fun v4 h5 =>
 bK (geI v4 (NV.int .i64 (.ofNat 0))) fun v6 =>
 retC v6 h5)
theorem e211 : ikB Tryz.prog 9 Tryz.f211 = S211 := by kernel_rfl
theorem k211 [Sig] (w0 : World) : SOK cW w0 211 S211 := okW Tryz.func211 (by kernel_rfl) e211
noncomputable def S213 (call : CallF) (N : Nat) (l : List NV) (h : H) : R :=
 uc l fun v0 l1 => uc l1 fun v2 l3 => un l3 (
 mK (calM call 250 [v0, v2] h) fun v4 h5 =>
 bK (geI v4 (NV.int .i64 (.ofNat 0))) fun v6 =>
 retC v6 h5)
theorem e213 : ikB Tryz.prog 9 Tryz.f213 = S213 := by kernel_rfl
theorem k213 [Sig] (w0 : World) : SOK cW w0 213 S213 := okW Tryz.func213 (by kernel_rfl) e213
noncomputable def S215 (call : CallF) (N : Nat) (l : List NV) (h : H) : R :=
 uc l fun v0 l1 => uc l1 fun v2 l3 => un l3 (
 mK (calM call 251 [v0, v2] h) fun v4 h5 =>
 bK (geI v4 (NV.int .i64 (.ofNat 0))) fun v6 =>
 retC v6 h5)
theorem e215 : ikB Tryz.prog 9 Tryz.f215 = S215 := by kernel_rfl
theorem k215 [Sig] (w0 : World) : SOK cW w0 215 S215 := okW Tryz.func215 (by kernel_rfl) e215
noncomputable def S245 (call : CallF) (N : Nat) (l : List NV) (h : H) : R :=
 uc l fun v0 l1 => uc l1 fun v2 l3 => un l3 (
 bK (lenSl v0) fun v4 =>
 joinC 0 (fun h5 =>
 retC (NV.int .i64 (.negSucc 0)) h5) fun J6 =>
 loopC N 4 (fun L12 v7 v8 v9 v10 h11 =>
 bK (ltI v10 v9) fun v13 =>
 condK v13 (
 bK (ixS 2 v7 v10) fun v14 =>
 bK (ldO 2 true h11 v14) fun v15 =>
 mK (calV call v8 [v15] h11) fun v16 h17 =>
 condK v16 (
 retC v10 h17) (
 bK (addI v10 (NV.int .i64 (.ofNat 1))) fun v18 =>
 L12 v7 v8 v9 v18 h17)) (
 J6 h11)) v0 v2 v4 (NV.int .i64 (.ofNat 0)) h)
theorem e245 : ikB Tryz.prog 9 Tryz.f245 = S245 := by kernel_rfl
theorem k245 [Sig] (w0 : World) : SOK cW w0 245 S245 := okW Tryz.func245 (by kernel_rfl) e245
noncomputable def S246 (call : CallF) (N : Nat) (l : List NV) (h : H) : R :=
 uc l fun v0 l1 => uc l1 fun v2 l3 => un l3 (
 bK (lenSl v0) fun v4 =>
 joinC 0 (fun h5 =>
 retC (NV.int .i64 (.negSucc 0)) h5) fun J6 =>
 loopC N 4 (fun L12 v7 v8 v9 v10 h11 =>
 bK (ltI v10 v9) fun v13 =>
 condK v13 (
 bK (ixS 13 v7 v10) fun v14 =>
 bK (ldO 13 true h11 v14) fun v15 =>
 mK (calV call v8 [v15] h11) fun v16 h17 =>
 condK v16 (
 retC v10 h17) (
 bK (addI v10 (NV.int .i64 (.ofNat 1))) fun v18 =>
 L12 v7 v8 v9 v18 h17)) (
 J6 h11)) v0 v2 v4 (NV.int .i64 (.ofNat 0)) h)
theorem e246 : ikB Tryz.prog 9 Tryz.f246 = S246 := by kernel_rfl
theorem k246 [Sig] (w0 : World) : SOK cW w0 246 S246 := okW Tryz.func246 (by kernel_rfl) e246
noncomputable def S247 (call : CallF) (N : Nat) (l : List NV) (h : H) : R :=
 uc l fun v0 l1 => uc l1 fun v2 l3 => un l3 (
 bK (lenSl v0) fun v4 =>
 joinC 0 (fun h5 =>
 retC (NV.int .i64 (.negSucc 0)) h5) fun J6 =>
 loopC N 4 (fun L12 v7 v8 v9 v10 h11 =>
 bK (ltI v10 v9) fun v13 =>
 condK v13 (
 bK (ixS 3 v7 v10) fun v14 =>
 bK (ldO 3 true h11 v14) fun v15 =>
 mK (calV call v8 [v15] h11) fun v16 h17 =>
 condK v16 (
 retC v10 h17) (
 bK (addI v10 (NV.int .i64 (.ofNat 1))) fun v18 =>
 L12 v7 v8 v9 v18 h17)) (
 J6 h11)) v0 v2 v4 (NV.int .i64 (.ofNat 0)) h)
theorem e247 : ikB Tryz.prog 9 Tryz.f247 = S247 := by kernel_rfl
theorem k247 [Sig] (w0 : World) : SOK cW w0 247 S247 := okW Tryz.func247 (by kernel_rfl) e247
noncomputable def S248 (call : CallF) (N : Nat) (l : List NV) (h : H) : R :=
 uc l fun v0 l1 => uc l1 fun v2 l3 => un l3 (
 bK (lenSl v0) fun v4 =>
 joinC 0 (fun h5 =>
 retC (NV.int .i64 (.negSucc 0)) h5) fun J6 =>
 loopC N 4 (fun L12 v7 v8 v9 v10 h11 =>
 bK (ltI v10 v9) fun v13 =>
 condK v13 (
 bK (ixS 3 v7 v10) fun v14 =>
 bK (ldO 3 true h11 v14) fun v15 =>
 mK (calV call v8 [v15] h11) fun v16 h17 =>
 condK v16 (
 retC v10 h17) (
 bK (addI v10 (NV.int .i64 (.ofNat 1))) fun v18 =>
 L12 v7 v8 v9 v18 h17)) (
 J6 h11)) v0 v2 v4 (NV.int .i64 (.ofNat 0)) h)
theorem e248 : ikB Tryz.prog 9 Tryz.f248 = S248 := by kernel_rfl
theorem k248 [Sig] (w0 : World) : SOK cW w0 248 S248 := okW Tryz.func248 (by kernel_rfl) e248
noncomputable def S249 (call : CallF) (N : Nat) (l : List NV) (h : H) : R :=
 uc l fun v0 l1 => uc l1 fun v2 l3 => un l3 (
 bK (lenSl v0) fun v4 =>
 joinC 0 (fun h5 =>
 retC (NV.int .i64 (.negSucc 0)) h5) fun J6 =>
 loopC N 4 (fun L12 v7 v8 v9 v10 h11 =>
 bK (ltI v10 v9) fun v13 =>
 condK v13 (
 bK (ixS 3 v7 v10) fun v14 =>
 bK (ldO 3 true h11 v14) fun v15 =>
 mK (calV call v8 [v15] h11) fun v16 h17 =>
 condK v16 (
 retC v10 h17) (
 bK (addI v10 (NV.int .i64 (.ofNat 1))) fun v18 =>
 L12 v7 v8 v9 v18 h17)) (
 J6 h11)) v0 v2 v4 (NV.int .i64 (.ofNat 0)) h)
theorem e249 : ikB Tryz.prog 9 Tryz.f249 = S249 := by kernel_rfl
theorem k249 [Sig] (w0 : World) : SOK cW w0 249 S249 := okW Tryz.func249 (by kernel_rfl) e249
noncomputable def S250 (call : CallF) (N : Nat) (l : List NV) (h : H) : R :=
 uc l fun v0 l1 => uc l1 fun v2 l3 => un l3 (
 bK (lenSl v0) fun v4 =>
 joinC 0 (fun h5 =>
 retC (NV.int .i64 (.negSucc 0)) h5) fun J6 =>
 loopC N 4 (fun L12 v7 v8 v9 v10 h11 =>
 bK (ltI v10 v9) fun v13 =>
 condK v13 (
 bK (ixS 5 v7 v10) fun v14 =>
 bK (ldO 5 true h11 v14) fun v15 =>
 mK (calV call v8 [v15] h11) fun v16 h17 =>
 condK v16 (
 retC v10 h17) (
 bK (addI v10 (NV.int .i64 (.ofNat 1))) fun v18 =>
 L12 v7 v8 v9 v18 h17)) (
 J6 h11)) v0 v2 v4 (NV.int .i64 (.ofNat 0)) h)
theorem e250 : ikB Tryz.prog 9 Tryz.f250 = S250 := by kernel_rfl
theorem k250 [Sig] (w0 : World) : SOK cW w0 250 S250 := okW Tryz.func250 (by kernel_rfl) e250
noncomputable def S251 (call : CallF) (N : Nat) (l : List NV) (h : H) : R :=
 uc l fun v0 l1 => uc l1 fun v2 l3 => un l3 (
 bK (lenSl v0) fun v4 =>
 joinC 0 (fun h5 =>
 retC (NV.int .i64 (.negSucc 0)) h5) fun J6 =>
 loopC N 4 (fun L12 v7 v8 v9 v10 h11 =>
 bK (ltI v10 v9) fun v13 =>
 condK v13 (
 bK (ixS 4 v7 v10) fun v14 =>
 bK (ldO 4 true h11 v14) fun v15 =>
 mK (calV call v8 [v15] h11) fun v16 h17 =>
 condK v16 (
 retC v10 h17) (
 bK (addI v10 (NV.int .i64 (.ofNat 1))) fun v18 =>
 L12 v7 v8 v9 v18 h17)) (
 J6 h11)) v0 v2 v4 (NV.int .i64 (.ofNat 0)) h)
theorem e251 : ikB Tryz.prog 9 Tryz.f251 = S251 := by kernel_rfl
theorem k251 [Sig] (w0 : World) : SOK cW w0 251 S251 := okW Tryz.func251 (by kernel_rfl) e251
end Go.Proofs.YtcfjpomapolbfaaGreatDoor
