/- Seat runfits: the shallow functions of this program, part 0: printed by a program, each held against the staged interpreter by the kernel. -/
import Derived.Test.YtcindejphmbjpaaGreatDoorRA
set_option maxRecDepth 100000
set_option linter.unusedVariables false
namespace Go.Proofs.YtcindejphmbjpaaGreatDoor
open Go Go.Ne
noncomputable def S3 (call : CallF) (N : Nat) (l : List NV) (h : H) : R :=
 uc l fun v0 l1 => uc l1 fun v2 l3 => uc l3 fun v4 l5 => un l5 (
 mK (boxM false v0 h) fun v6 h7 =>
 mK (boxM false v4 h7) fun v8 h9 =>
 mK (calM call 4 [] h9) fun v10 h11 =>
 bK (notO v10) fun v12 =>
 condK v12 (
 retC (NV.bool false) h11) (
 mK (bslM 1 false [(0, 1)] [(NV.int .i64 (.ofNat 0))] [(NV.int .i64 (.ofNat 127))] h11) fun v13 h14 =>
 bK (bldO [(0, 1)] [NV.nslice, NV.nslice] [v13]) fun v15 =>
 mK (calM call 5 [v15, NV.nslice, NV.nslice] h14) fun v16 h17 =>
 mK (alM (NB.cells [NV.nslice, NV.nslice, NV.nslice, NV.nslice, NV.nslice, NV.nslice, NV.nslice, (NV.int .i64 (.ofNat 0)), NV.nslice, NV.nslice, (NV.bool false)]) h17) fun v18 h19 =>
 mK (stM 11 v18 v16 h19) fun v20 h21 =>
 bK (ldO 11 true h21 v18) fun v22 =>
 mK (calM call 6 [v22] h21) fun v23 h24 =>
 mK (calM call 7 [v23] h24) fun v25 h26 =>
 bK (bldO [] [(NV.int .i64 (.ofNat 0)), (NV.int .i64 (.ofNat 0)), (NV.int .i64 (.ofNat 0))] []) fun v27 =>
 mK (calM call 8 [NV.nilptr, (NV.int .i64 (.ofNat 0)), NV.nslice, v27] h26) fun v28 h29 =>
 bK (extO 0 v28) fun v30 =>
 bK (extO 1 v28) fun v31 =>
 bK (extO 2 v28) fun v32 =>
 bK (ldO 4 true h29 (chkV h29 v6)) fun v33 =>
 bK (ldO 4 true h29 (chkV h29 v6)) fun v34 =>
 mK (calM call 9 [(chkV h29 v25), (chkV h29 v33), (chkV h29 v2)] h29) fun v35 h36 =>
 nextK h29 h36 (
 bK (ldO 4 true h36 (chkV h36 v6)) fun v37 =>
 sameK v37 v34 (
 mK (calM call 10 [(chkV h36 v23), (chkV h36 v34), (chkV h36 v2)] h36) fun v38 h39 =>
 nextK h36 h39 (
 bK (eqD Tryz.prog .neq 4 h39 (chkV h39 v35) (chkV h39 v38)) fun v40 =>
 jK (fun v41 h42 =>
 jK (fun v44 h45 =>
 bK (pickO v40 (NV.bool true) v44) fun v47 =>
 jK (fun v48 h49 =>
 jK (fun v51 h52 =>
 jK (fun v54 h55 =>
 jK (fun v57 h58 =>
 nextK h39 h58 (
 bK (pickO v47 (NV.bool true) v57) fun v60 =>
 condK v60 (
 retC (NV.bool false) h58) (
 bK (fAddr 4 v8) fun v61 =>
 bK (ldO 1 false h58 v61) fun v62 =>
 bK (lenSl v62) fun v63 =>
 bK (gtI v63 (NV.int .i64 (.ofNat 50))) fun v64 =>
 condK v64 (
 retC (NV.bool true) h58) (
 bK (fAddr 4 v8) fun v65 =>
 bK (ldO 1 false h58 v65) fun v66 =>
 bK (bldO [(0, 1), (1, 1)] [(NV.int .i64 (.ofNat 0)), (NV.int .i64 (.ofNat 0)), (NV.int .i64 (.ofNat 0))] [(NV.int .i64 (.ofNat 5)), (NV.int .i64 (.ofNat 1))]) fun v67 =>
 mK (calM call 8 [v25, (NV.int .i64 (.ofNat 1)), v66, v67] h58) fun v68 h69 =>
 bK (extO 0 v68) fun v70 =>
 bK (extO 1 v68) fun v71 =>
 bK (extO 2 v68) fun v72 =>
 bK (fAddr 4 v8) fun v73 =>
 bK (ldO 1 false h69 v73) fun v74 =>
 bK (lenSl v74) fun v75 =>
 bK (eqI v75 (NV.int .i64 (.ofNat 1))) fun v76 =>
 jK (fun v77 h78 =>
 jK (fun v80 h81 =>
 jK (fun v83 h84 =>
 jK (fun v86 h87 =>
 jK (fun v89 h90 =>
 jK (fun v92 h93 =>
 bK (pickO v76 v92 (NV.bool false)) fun v95 =>
 bK (lenSl v70) fun v96 =>
 bK (eqI v96 (NV.int .i64 (.ofNat 0))) fun v97 =>
 jK (fun v98 h99 =>
 jK (fun v101 h102 =>
 bK (pickO v97 v101 (NV.bool false)) fun v104 =>
 jK (fun v105 h106 =>
 jK (fun v108 h109 =>
 jK (fun v111 h112 =>
 jK (fun v114 h115 =>
 jK (fun v117 h118 =>
 jK (fun v120 h121 =>
 jK (fun v123 h124 =>
 jK (fun v126 h127 =>
 jK (fun v129 h130 =>
 jK (fun v132 h133 =>
 jK (fun v135 h136 =>
 jK (fun v138 h139 =>
 jK (fun v141 h142 =>
 bK (pickO v104 v141 (NV.bool false)) fun v144 =>
 retC v144 h142) fun J143 => gK v104 true (
 bK (pickO v120 (NV.bool true) v138) fun v145 =>
 J143 v145 h139) (J143 (NV.tuple []) h139)) fun J140 => gK v120 false (
 bK (pickO v129 v135 (NV.bool false)) fun v146 =>
 J140 v146 h136) (J140 (NV.tuple []) h136)) fun J137 => gK v129 true (
 bK (eqI v132 (NV.int .i64 (.ofNat 61))) fun v147 =>
 J137 v147 h133) (J137 (NV.tuple []) h133)) fun J134 => gK v129 true (
 J134 v72 h130) (J134 (NV.tuple []) h130)) fun J131 => gK v120 false (
 J131 v126 h127) (J131 (NV.tuple []) h127)) fun J128 => gK v120 false (
 bK (notO v123) fun v148 =>
 J128 v148 h124) (J128 (NV.tuple []) h124)) fun J125 => gK v120 false (
 J125 v95 h121) (J125 (NV.tuple []) h121)) fun J122 => gK v104 true (
 J122 v117 h118) (J122 (NV.tuple []) h118)) fun J119 => gK v104 true (
 bK (pickO v108 v114 (NV.bool false)) fun v149 =>
 J119 v149 h115) (J119 (NV.tuple []) h115)) fun J116 => gK v108 true (
 bK (eqI v111 (NV.int .i64 (.ofNat 0))) fun v150 =>
 J116 v150 h112) (J116 (NV.tuple []) h112)) fun J113 => gK v108 true (
 J113 v72 h109) (J113 (NV.tuple []) h109)) fun J110 => gK v104 true (
 J110 v105 h106) (J110 (NV.tuple []) h106)) fun J107 => gK v104 true (
 J107 v95 h102) (J107 (NV.tuple []) h102)) fun J103 => gK v97 true (
 bK (eqI v98 (NV.int .i64 (.ofNat 0))) fun v151 =>
 J103 v151 h99) (J103 (NV.tuple []) h99)) fun J100 => gK v97 true (
 J100 v71 h93) (J100 (NV.tuple []) h93)) fun J94 => gK v76 true (
 mK (calM call 10 [v77, v89, (NV.int .i64 (.ofNat 127))] h90) fun v152 h153 =>
 J94 v152 h153) (J94 (NV.tuple []) h90)) fun J91 => gK v76 true (
 bK (ldO 4 true h87 v86) fun v154 =>
 J91 v154 h87) (J91 (NV.tuple []) h87)) fun J88 => gK v76 true (
 bK (ixS 4 v83 (NV.int .i64 (.ofNat 0))) fun v155 =>
 J88 v155 h84) (J88 (NV.tuple []) h84)) fun J85 => gK v76 true (
 bK (ldO 1 false h81 v80) fun v156 =>
 J85 v156 h81) (J85 (NV.tuple []) h81)) fun J82 => gK v76 true (
 bK (fAddr 4 v8) fun v157 =>
 J82 v157 h78) (J82 (NV.tuple []) h78)) fun J79 => gK v76 true (
 J79 v23 h69) (J79 (NV.tuple []) h69))))) fun J59 => gK v47 false (
 mK (calM call 9 [(chkV h39 v48), (chkV h39 v51), (chkV h39 v54)] h39) fun v158 h159 =>
 J59 v158 h159) (J59 (NV.tuple []) h39)) fun J56 => gK v47 false (
 J56 v2 h39) (J56 (NV.tuple []) h39)) fun J53 => gK v47 false (
 bK (ldO 4 true h39 (chkV h39 v6)) fun v160 =>
 J53 v160 h39) (J53 (NV.tuple []) h39)) fun J50 => gK v47 false (
 J50 NV.nilptr h39) (J50 (NV.tuple []) h39)) fun J46 => gK v40 false (
 bK (neI v41 (NV.int .i64 (.ofNat 1))) fun v161 =>
 J46 v161 h39) (J46 (NV.tuple []) h39)) fun J43 => gK v40 false (
 J43 v32 h39) (J43 (NV.tuple []) h39))))))
theorem e3 : ikB Tryz.prog 9 Tryz.f3 = S3 := by kernel_rfl
theorem k3 [Sig] (w0 : World) : SOK cW w0 3 S3 := okW Tryz.func3 (by kernel_rfl) e3
noncomputable def S4 (call : CallF) (N : Nat) (l : List NV) (h : H) : R :=
 un l (
 bK (bldO [] [NV.nslice, NV.nslice] []) fun v0 =>
 bK (bldO [(0, 1)] [(NV.int .i64 (.ofNat 0)), (NV.int .i64 (.ofNat 0)), (NV.int .i64 (.ofNat 0)), (NV.int .u64 (.ofNat 0)), (NV.int .u64 (.ofNat 0)), NV.nslice, NV.nslice, NV.nslice, (NV.bool false)] [(NV.int .i64 (.ofNat 12))]) fun v1 =>
 mK (bslM 1 false [(0, 9)] [(NV.int .i64 (.ofNat 0)), (NV.int .i64 (.ofNat 0)), (NV.int .i64 (.ofNat 0)), (NV.int .u64 (.ofNat 0)), (NV.int .u64 (.ofNat 0)), NV.nslice, NV.nslice, NV.nslice, (NV.bool false)] [v1] h) fun v2 h3 =>
 bK (bldO [(0, 1), (6, 1)] [(NV.int .i64 (.ofNat 0)), (NV.int .i64 (.ofNat 0)), (NV.int .i64 (.ofNat 0)), (NV.int .u64 (.ofNat 0)), (NV.int .u64 (.ofNat 0)), NV.nslice, NV.nslice, NV.nslice, (NV.bool false)] [(NV.int .i64 (.ofNat 3)), v2]) fun v4 =>
 mK (bslM 1 false [(0, 9)] [(NV.int .i64 (.ofNat 0)), (NV.int .i64 (.ofNat 0)), (NV.int .i64 (.ofNat 0)), (NV.int .u64 (.ofNat 0)), (NV.int .u64 (.ofNat 0)), NV.nslice, NV.nslice, NV.nslice, (NV.bool false)] [v4] h3) fun v5 h6 =>
 mK (calM call 5 [v0, NV.nslice, v5] h6) fun v7 h8 =>
 mK (alM (NB.cells [NV.nslice, NV.nslice, NV.nslice, NV.nslice, NV.nslice, NV.nslice, NV.nslice, (NV.int .i64 (.ofNat 0)), NV.nslice, NV.nslice, (NV.bool false)]) h8) fun v9 h10 =>
 mK (stM 11 v9 v7 h10) fun v11 h12 =>
 bK (bldO [] [NV.nslice, NV.nslice] []) fun v13 =>
 bK (bldO [(0, 1), (1, 1)] [(NV.int .i64 (.ofNat 0)), (NV.int .i64 (.ofNat 0)), (NV.int .i64 (.ofNat 0)), (NV.int .u64 (.ofNat 0)), (NV.int .u64 (.ofNat 0)), NV.nslice, NV.nslice, NV.nslice, (NV.bool false)] [(NV.int .i64 (.ofNat 16)), (NV.int .i64 (.ofNat 1))]) fun v14 =>
 mK (bslM 1 false [(0, 9)] [(NV.int .i64 (.ofNat 0)), (NV.int .i64 (.ofNat 0)), (NV.int .i64 (.ofNat 0)), (NV.int .u64 (.ofNat 0)), (NV.int .u64 (.ofNat 0)), NV.nslice, NV.nslice, NV.nslice, (NV.bool false)] [v14] h12) fun v15 h16 =>
 mK (calM call 5 [v13, NV.nslice, v15] h16) fun v17 h18 =>
 mK (alM (NB.cells [NV.nslice, NV.nslice, NV.nslice, NV.nslice, NV.nslice, NV.nslice, NV.nslice, (NV.int .i64 (.ofNat 0)), NV.nslice, NV.nslice, (NV.bool false)]) h18) fun v19 h20 =>
 mK (stM 11 v19 v17 h20) fun v21 h22 =>
 mK (bslM 1 false [(0, 1)] [(NV.int .i64 (.ofNat 0))] [(NV.int .i64 (.ofNat 127))] h22) fun v23 h24 =>
 mK (bslM 1 false [(0, 1)] [(NV.int .i64 (.ofNat 0))] [(NV.int .i64 (.ofNat 127))] h24) fun v25 h26 =>
 bK (bldO [(0, 1), (1, 1)] [NV.nslice, NV.nslice] [v23, v25]) fun v27 =>
 bK (bldO [(0, 1)] [(NV.int .i64 (.ofNat 0)), (NV.int .i64 (.ofNat 0)), (NV.int .i64 (.ofNat 0)), (NV.int .u64 (.ofNat 0)), (NV.int .u64 (.ofNat 0)), NV.nslice, NV.nslice, NV.nslice, (NV.bool false)] [(NV.int .i64 (.ofNat 32))]) fun v28 =>
 bK (bldO [(0, 1), (3, 1)] [(NV.int .i64 (.ofNat 0)), (NV.int .i64 (.ofNat 0)), (NV.int .i64 (.ofNat 0)), (NV.int .u64 (.ofNat 0)), (NV.int .u64 (.ofNat 0)), NV.nslice, NV.nslice, NV.nslice, (NV.bool false)] [(NV.int .i64 (.ofNat 65)), (NV.int .u64 (.ofNat 2))]) fun v29 =>
 bK (bldO [(0, 1)] [(NV.int .i64 (.ofNat 0)), (NV.int .i64 (.ofNat 0)), (NV.int .i64 (.ofNat 0)), (NV.int .u64 (.ofNat 0)), (NV.int .u64 (.ofNat 0)), NV.nslice, NV.nslice, NV.nslice, (NV.bool false)] [(NV.int .i64 (.ofNat 106))]) fun v30 =>
 mK (bslM 3 false [(0, 9), (9, 9), (18, 9)] [(NV.int .i64 (.ofNat 0)), (NV.int .i64 (.ofNat 0)), (NV.int .i64 (.ofNat 0)), (NV.int .u64 (.ofNat 0)), (NV.int .u64 (.ofNat 0)), NV.nslice, NV.nslice, NV.nslice, (NV.bool false), (NV.int .i64 (.ofNat 0)), (NV.int .i64 (.ofNat 0)), (NV.int .i64 (.ofNat 0)), (NV.int .u64 (.ofNat 0)), (NV.int .u64 (.ofNat 0)), NV.nslice, NV.nslice, NV.nslice, (NV.bool false), (NV.int .i64 (.ofNat 0)), (NV.int .i64 (.ofNat 0)), (NV.int .i64 (.ofNat 0)), (NV.int .u64 (.ofNat 0)), (NV.int .u64 (.ofNat 0)), NV.nslice, NV.nslice, NV.nslice, (NV.bool false)] [v28, v29, v30] h26) fun v31 h32 =>
 mK (calM call 5 [v27, NV.nslice, v31] h32) fun v33 h34 =>
 mK (alM (NB.cells [NV.nslice, NV.nslice, NV.nslice, NV.nslice, NV.nslice, NV.nslice, NV.nslice, (NV.int .i64 (.ofNat 0)), NV.nslice, NV.nslice, (NV.bool false)]) h34) fun v35 h36 =>
 mK (stM 11 v35 v33 h36) fun v37 h38 =>
 bK (ldO 11 true h38 v9) fun v39 =>
 mK (calM call 6 [v39] h38) fun v40 h41 =>
 mK (calM call 7 [v40] h41) fun v42 h43 =>
 bK (bldO [(0, 1), (1, 1)] [(NV.int .i64 (.ofNat 0)), (NV.int .i64 (.ofNat 0)), (NV.int .i64 (.ofNat 0))] [(NV.int .i64 (.ofNat 5)), (NV.int .i64 (.ofNat 1))]) fun v44 =>
 mK (calM call 8 [v42, (NV.int .i64 (.ofNat 1)), NV.nslice, v44] h43) fun v45 h46 =>
 bK (extO 0 v45) fun v47 =>
 bK (extO 1 v45) fun v48 =>
 bK (extO 2 v45) fun v49 =>
 bK (ldO 11 true h46 v19) fun v50 =>
 mK (calM call 6 [v50] h46) fun v51 h52 =>
 mK (calM call 7 [v51] h52) fun v53 h54 =>
 bK (bldO [(0, 1), (1, 1)] [(NV.int .i64 (.ofNat 0)), (NV.int .i64 (.ofNat 0)), (NV.int .i64 (.ofNat 0))] [(NV.int .i64 (.ofNat 9)), (NV.int .i64 (.ofNat 3))]) fun v55 =>
 mK (calM call 8 [v53, (NV.int .i64 (.ofNat 1)), NV.nslice, v55] h54) fun v56 h57 =>
 bK (extO 0 v56) fun v58 =>
 bK (extO 1 v56) fun v59 =>
 bK (extO 2 v56) fun v60 =>
 bK (ldO 11 true h57 v35) fun v61 =>
 mK (calM call 6 [v61] h57) fun v62 h63 =>
 mK (calM call 7 [v62] h63) fun v64 h65 =>
 bK (bldO [(0, 1), (1, 1)] [(NV.int .i64 (.ofNat 0)), (NV.int .u64 (.ofNat 0)), (NV.int .u64 (.ofNat 0)), (NV.bool false)] [(NV.int .i64 (.ofNat 127)), (NV.int .u64 (.ofNat 40))]) fun v66 =>
 mK (bslM 1 false [(0, 4)] [(NV.int .i64 (.ofNat 0)), (NV.int .u64 (.ofNat 0)), (NV.int .u64 (.ofNat 0)), (NV.bool false)] [v66] h65) fun v67 h68 =>
 bK (bldO [(0, 1), (1, 1)] [(NV.int .i64 (.ofNat 0)), (NV.int .i64 (.ofNat 0)), (NV.int .i64 (.ofNat 0))] [(NV.int .i64 (.ofNat 9)), (NV.int .i64 (.ofNat 3))]) fun v69 =>
 mK (calM call 8 [v64, (NV.int .i64 (.ofNat 1)), v67, v69] h68) fun v70 h71 =>
 bK (extO 0 v70) fun v72 =>
 bK (extO 1 v70) fun v73 =>
 bK (extO 2 v70) fun v74 =>
 bK (eqI v48 (NV.int .i64 (.ofNat 5))) fun v75 =>
 jK (fun v76 h77 =>
 jK (fun v79 h80 =>
 bK (pickO v75 v79 (NV.bool false)) fun v82 =>
 jK (fun v83 h84 =>
 jK (fun v86 h87 =>
 bK (pickO v82 v86 (NV.bool false)) fun v89 =>
 jK (fun v90 h91 =>
 jK (fun v93 h94 =>
 bK (pickO v89 v93 (NV.bool false)) fun v96 =>
 jK (fun v97 h98 =>
 jK (fun v100 h101 =>
 bK (pickO v96 v100 (NV.bool false)) fun v103 =>
 jK (fun v104 h105 =>
 jK (fun v107 h108 =>
 bK (pickO v103 v107 (NV.bool false)) fun v110 =>
 jK (fun v111 h112 =>
 jK (fun v114 h115 =>
 jK (fun v117 h118 =>
 bK (pickO v110 v117 (NV.bool false)) fun v120 =>
 jK (fun v121 h122 =>
 jK (fun v124 h125 =>
 jK (fun v127 h128 =>
 jK (fun v130 h131 =>
 jK (fun v133 h134 =>
 bK (pickO v120 v133 (NV.bool false)) fun v136 =>
 retC v136 h134) fun J135 => gK v120 true (
 bK (eqI v130 (NV.int .u64 (.ofNat 42))) fun v137 =>
 J135 v137 h131) (J135 (NV.tuple []) h131)) fun J132 => gK v120 true (
 bK (ldO 1 false h128 v127) fun v138 =>
 J132 v138 h128) (J132 (NV.tuple []) h128)) fun J129 => gK v120 true (
 bK (fAddr 1 v124) fun v139 =>
 J129 v139 h125) (J129 (NV.tuple []) h125)) fun J126 => gK v120 true (
 bK (ixS 4 v121 (NV.int .i64 (.ofNat 0))) fun v140 =>
 J126 v140 h122) (J126 (NV.tuple []) h122)) fun J123 => gK v120 true (
 J123 v72 h118) (J123 (NV.tuple []) h118)) fun J119 => gK v110 true (
 bK (eqI v114 (NV.int .i64 (.ofNat 1))) fun v141 =>
 J119 v141 h115) (J119 (NV.tuple []) h115)) fun J116 => gK v110 true (
 bK (lenSl v111) fun v142 =>
 J116 v142 h112) (J116 (NV.tuple []) h112)) fun J113 => gK v110 true (
 J113 v72 h108) (J113 (NV.tuple []) h108)) fun J109 => gK v103 true (
 bK (eqI v104 (NV.int .i64 (.ofNat 0))) fun v143 =>
 J109 v143 h105) (J109 (NV.tuple []) h105)) fun J106 => gK v103 true (
 J106 v74 h101) (J106 (NV.tuple []) h101)) fun J102 => gK v96 true (
 bK (eqI v97 (NV.int .i64 (.ofNat 3))) fun v144 =>
 J102 v144 h98) (J102 (NV.tuple []) h98)) fun J99 => gK v96 true (
 J99 v73 h94) (J99 (NV.tuple []) h94)) fun J95 => gK v89 true (
 bK (eqI v90 (NV.int .i64 (.ofNat 50))) fun v145 =>
 J95 v145 h91) (J95 (NV.tuple []) h91)) fun J92 => gK v89 true (
 J92 v60 h87) (J92 (NV.tuple []) h87)) fun J88 => gK v82 true (
 bK (eqI v83 (NV.int .i64 (.ofNat 3))) fun v146 =>
 J88 v146 h84) (J88 (NV.tuple []) h84)) fun J85 => gK v82 true (
 J85 v59 h80) (J85 (NV.tuple []) h80)) fun J81 => gK v75 true (
 bK (eqI v76 (NV.int .i64 (.ofNat 51))) fun v147 =>
 J81 v147 h77) (J81 (NV.tuple []) h77)) fun J78 => gK v75 true (
 J78 v49 h71) (J78 (NV.tuple []) h71))
theorem e4 : ikB Tryz.prog 9 Tryz.f4 = S4 := by kernel_rfl
theorem k4 [Sig] (w0 : World) : SOK cW w0 4 S4 := okW Tryz.func4 (by kernel_rfl) e4
noncomputable def S5 (call : CallF) (N : Nat) (l : List NV) (h : H) : R :=
 uc l fun v0 l1 => uc l1 fun v2 l3 => uc l3 fun v4 l5 => un l5 (
 mK (boxM false v0 h) fun v6 h7 =>
 mK (alM (NB.cells [NV.nslice, NV.nslice, NV.nslice, NV.nslice, NV.nslice, NV.nslice, NV.nslice, (NV.int .i64 (.ofNat 0)), NV.nslice, NV.nslice, (NV.bool false)]) h7) fun v8 h9 =>
 bK (ldO 2 true h9 v6) fun v10 =>
 bK (bldO [] [NV.nslice, NV.nslice] []) fun v11 =>
 mK (bslM 1 false [(0, 1)] [(NV.int .i64 (.ofNat 0))] [(NV.int .i64 (.ofNat 127))] h9) fun v12 h13 =>
 mK (bslM 1 false [(0, 1)] [(NV.int .i64 (.ofNat 0))] [(NV.int .i64 (.ofNat 127))] h13) fun v14 h15 =>
 bK (bldO [(0, 1), (1, 1)] [NV.nslice, NV.nslice] [v12, v14]) fun v16 =>
 mK (bslM 2 false [(0, 1), (1, 1)] [(NV.int .i64 (.ofNat 0)), (NV.int .i64 (.ofNat 0))] [(NV.int .i64 (.ofNat 127)), (NV.int .i64 (.ofNat 126))] h15) fun v17 h18 =>
 mK (bslM 1 false [(0, 1)] [(NV.int .i64 (.ofNat 0))] [(NV.int .i64 (.ofNat 125))] h18) fun v19 h20 =>
 bK (bldO [(0, 1), (1, 1)] [NV.nslice, NV.nslice] [v17, v19]) fun v21 =>
 mK (bslM 4 false [(0, 2), (2, 2), (4, 2), (6, 2)] [NV.nslice, NV.nslice, NV.nslice, NV.nslice, NV.nslice, NV.nslice, NV.nslice, NV.nslice] [v10, v11, v16, v21] h20) fun v22 h23 =>
 bK (bldO [(0, 1)] [NV.nslice, NV.nslice, NV.nslice, NV.nslice, NV.nslice, NV.nslice, NV.nslice, (NV.int .i64 (.ofNat 0)), NV.nslice, NV.nslice, (NV.bool false)] [v22]) fun v24 =>
 mK (alM (NB.cells [NV.nslice, NV.nslice, NV.nslice, NV.nslice, NV.nslice, NV.nslice, NV.nslice, (NV.int .i64 (.ofNat 0)), NV.nslice, NV.nslice, (NV.bool false)]) h23) fun v25 h26 =>
 mK (stM 11 v25 v24 h26) fun v27 h28 =>
 bK (bldO [(1, 1), (3, 1)] [(NV.str 0 0), (NV.str 0 0), (NV.int .i64 (.ofNat 0)), (NV.int .i64 (.ofNat 0)), (NV.int .i64 (.ofNat 0)), (NV.int .i64 (.ofNat 0)), (NV.int .i64 (.ofNat 0)), (NV.bool false), (NV.int .i64 (.ofNat 0)), (NV.int .i64 (.ofNat 0)), (NV.bool false), (NV.int .i64 (.ofNat 0)), (NV.bool false)] [(NV.str 1 102), (NV.int .i64 (.ofNat 2))]) fun v29 =>
 bK (bldO [(0, 1)] [(NV.int .i64 (.ofNat 0)), (NV.bool false)] [(NV.int .i64 (.ofNat 127))]) fun v30 =>
 bK (bldO [(1, 1), (2, 1), (11, 2)] [(NV.str 0 0), (NV.str 0 0), (NV.int .i64 (.ofNat 0)), (NV.int .i64 (.ofNat 0)), (NV.int .i64 (.ofNat 0)), (NV.int .i64 (.ofNat 0)), (NV.int .i64 (.ofNat 0)), (NV.bool false), (NV.int .i64 (.ofNat 0)), (NV.int .i64 (.ofNat 0)), (NV.bool false), (NV.int .i64 (.ofNat 0)), (NV.bool false)] [(NV.str 1 103), (NV.int .i64 (.ofNat 3)), v30]) fun v31 =>
 mK (bslM 2 false [(0, 13), (13, 13)] [(NV.str 0 0), (NV.str 0 0), (NV.int .i64 (.ofNat 0)), (NV.int .i64 (.ofNat 0)), (NV.int .i64 (.ofNat 0)), (NV.int .i64 (.ofNat 0)), (NV.int .i64 (.ofNat 0)), (NV.bool false), (NV.int .i64 (.ofNat 0)), (NV.int .i64 (.ofNat 0)), (NV.bool false), (NV.int .i64 (.ofNat 0)), (NV.bool false), (NV.str 0 0), (NV.str 0 0), (NV.int .i64 (.ofNat 0)), (NV.int .i64 (.ofNat 0)), (NV.int .i64 (.ofNat 0)), (NV.int .i64 (.ofNat 0)), (NV.int .i64 (.ofNat 0)), (NV.bool false), (NV.int .i64 (.ofNat 0)), (NV.int .i64 (.ofNat 0)), (NV.bool false), (NV.int .i64 (.ofNat 0)), (NV.bool false)] [v29, v31] h28) fun v32 h33 =>
 bK (fAddr 1 v25) fun v34 =>
 mK (stM 1 v34 v32 h33) fun v35 h36 =>
 bK (bldO [(1, 1), (2, 1)] [(NV.int .i64 (.ofNat 0)), NV.nslice, NV.nslice] [v2, v4]) fun v37 =>
 bK (bldO [(0, 1)] [(NV.int .i64 (.ofNat 0)), NV.nslice, NV.nslice] [(NV.int .i64 (.ofNat 1))]) fun v38 =>
 mK (bslM 2 false [(0, 3), (3, 3)] [(NV.int .i64 (.ofNat 0)), NV.nslice, NV.nslice, (NV.int .i64 (.ofNat 0)), NV.nslice, NV.nslice] [v37, v38] h36) fun v39 h40 =>
 bK (fAddr 2 v25) fun v41 =>
 mK (stM 1 v41 v39 h40) fun v42 h43 =>
 bK (bldO [(0, 1)] [(NV.int .i64 (.ofNat 0)), (NV.int .i64 (.ofNat 0)), (NV.bool false)] [(NV.int .i64 (.ofNat 3))]) fun v44 =>
 bK (bldO [(0, 1), (1, 3)] [(NV.int .i64 (.ofNat 0)), (NV.int .i64 (.ofNat 0)), (NV.int .i64 (.ofNat 0)), (NV.bool false)] [(NV.int .i64 (.ofNat 112)), v44]) fun v45 =>
 bK (bldO [(0, 1), (1, 1), (2, 1)] [(NV.int .i64 (.ofNat 0)), (NV.int .i64 (.ofNat 0)), (NV.bool false)] [(NV.int .i64 (.ofNat 2)), (NV.int .i64 (.ofNat 5)), (NV.bool true)]) fun v46 =>
 bK (bldO [(0, 1), (1, 3)] [(NV.int .i64 (.ofNat 0)), (NV.int .i64 (.ofNat 0)), (NV.int .i64 (.ofNat 0)), (NV.bool false)] [(NV.int .i64 (.ofNat 111)), v46]) fun v47 =>
 mK (bslM 2 false [(0, 4), (4, 4)] [(NV.int .i64 (.ofNat 0)), (NV.int .i64 (.ofNat 0)), (NV.int .i64 (.ofNat 0)), (NV.bool false), (NV.int .i64 (.ofNat 0)), (NV.int .i64 (.ofNat 0)), (NV.int .i64 (.ofNat 0)), (NV.bool false)] [v45, v47] h43) fun v48 h49 =>
 bK (fAddr 3 v25) fun v50 =>
 mK (stM 1 v50 v48 h49) fun v51 h52 =>
 bK (bldO [(0, 1), (1, 1), (2, 1)] [(NV.int .i64 (.ofNat 0)), (NV.int .i64 (.ofNat 0)), (NV.bool false)] [(NV.int .i64 (.ofNat 1)), (NV.int .i64 (.ofNat 2)), (NV.bool true)]) fun v53 =>
 mK (bslM 1 false [(0, 3)] [(NV.int .i64 (.ofNat 0)), (NV.int .i64 (.ofNat 0)), (NV.bool false)] [v53] h52) fun v54 h55 =>
 bK (fAddr 4 v25) fun v56 =>
 mK (stM 1 v56 v54 h55) fun v57 h58 =>
 bK (bldO [(0, 1), (1, 1)] [(NV.int .i64 (.ofNat 0)), (NV.bool false)] [(NV.int .i64 (.ofNat 126)), (NV.bool true)]) fun v59 =>
 bK (bldO [(0, 1), (3, 1)] [(NV.int .i64 (.ofNat 0)), (NV.int .i64 (.ofNat 0)), (NV.int .i64 (.ofNat 0)), (NV.int .u64 (.ofNat 0)), (NV.int .u64 (.ofNat 0)), NV.nslice, NV.nslice, NV.nslice, (NV.bool false)] [(NV.int .i64 (.ofNat 66)), (NV.int .u64 (.ofNat 5))]) fun v60 =>
 mK (bslM 1 false [(0, 9)] [(NV.int .i64 (.ofNat 0)), (NV.int .i64 (.ofNat 0)), (NV.int .i64 (.ofNat 0)), (NV.int .u64 (.ofNat 0)), (NV.int .u64 (.ofNat 0)), NV.nslice, NV.nslice, NV.nslice, (NV.bool false)] [v60] h58) fun v61 h62 =>
 bK (bldO [(0, 2), (2, 1)] [(NV.int .i64 (.ofNat 0)), (NV.bool false), NV.nslice] [v59, v61]) fun v63 =>
 bK (bldO [(0, 1), (1, 1)] [(NV.int .i64 (.ofNat 0)), (NV.bool false)] [(NV.int .i64 (.ofNat 112)), (NV.bool true)]) fun v64 =>
 bK (bldO [(0, 1), (1, 1)] [(NV.int .i64 (.ofNat 0)), (NV.int .i64 (.ofNat 0)), (NV.int .i64 (.ofNat 0)), (NV.int .u64 (.ofNat 0)), (NV.int .u64 (.ofNat 0)), NV.nslice, NV.nslice, NV.nslice, (NV.bool false)] [(NV.int .i64 (.ofNat 210)), (NV.int .i64 (.ofNat 2))]) fun v65 =>
 mK (bslM 1 false [(0, 9)] [(NV.int .i64 (.ofNat 0)), (NV.int .i64 (.ofNat 0)), (NV.int .i64 (.ofNat 0)), (NV.int .u64 (.ofNat 0)), (NV.int .u64 (.ofNat 0)), NV.nslice, NV.nslice, NV.nslice, (NV.bool false)] [v65] h62) fun v66 h67 =>
 bK (bldO [(0, 2), (2, 1)] [(NV.int .i64 (.ofNat 0)), (NV.bool false), NV.nslice] [v64, v66]) fun v68 =>
 mK (bslM 2 false [(0, 3), (3, 3)] [(NV.int .i64 (.ofNat 0)), (NV.bool false), NV.nslice, (NV.int .i64 (.ofNat 0)), (NV.bool false), NV.nslice] [v63, v68] h67) fun v69 h70 =>
 bK (fAddr 5 v25) fun v71 =>
 mK (stM 1 v71 v69 h70) fun v72 h73 =>
 bK (bldO [(0, 1)] [(NV.int .i64 (.ofNat 0)), (NV.int .i64 (.ofNat 0)), (NV.int .i64 (.ofNat 0)), (NV.int .u64 (.ofNat 0)), (NV.int .u64 (.ofNat 0)), NV.nslice, NV.nslice, NV.nslice, (NV.bool false)] [(NV.int .i64 (.ofNat 210))]) fun v74 =>
 mK (bslM 1 false [(0, 9)] [(NV.int .i64 (.ofNat 0)), (NV.int .i64 (.ofNat 0)), (NV.int .i64 (.ofNat 0)), (NV.int .u64 (.ofNat 0)), (NV.int .u64 (.ofNat 0)), NV.nslice, NV.nslice, NV.nslice, (NV.bool false)] [v74] h73) fun v75 h76 =>
 bK (bldO [(0, 1), (1, 1)] [(NV.int .i64 (.ofNat 0)), (NV.int .i64 (.ofNat 0)), (NV.int .i64 (.ofNat 0)), (NV.int .u64 (.ofNat 0)), (NV.int .u64 (.ofNat 0)), NV.nslice, NV.nslice, NV.nslice, (NV.bool false)] [(NV.int .i64 (.ofNat 208)), (NV.int .i64 (.ofNat 112))]) fun v77 =>
 mK (bslM 1 false [(0, 9)] [(NV.int .i64 (.ofNat 0)), (NV.int .i64 (.ofNat 0)), (NV.int .i64 (.ofNat 0)), (NV.int .u64 (.ofNat 0)), (NV.int .u64 (.ofNat 0)), NV.nslice, NV.nslice, NV.nslice, (NV.bool false)] [v77] h76) fun v78 h79 =>
 mK (bslM 2 false [(0, 1), (1, 1)] [NV.nslice, NV.nslice] [v75, v78] h79) fun v80 h81 =>
 bK (bldO [(0, 1), (1, 1), (4, 1)] [(NV.int .i64 (.ofNat 0)), (NV.int .i64 (.ofNat 0)), (NV.int .i64 (.ofNat 0)), NV.nslice, NV.nslice] [(NV.int .i64 (.ofNat 112)), (NV.int .i64 (.ofNat 1)), v80]) fun v82 =>
 bK (bldO [(0, 1), (1, 1)] [(NV.int .i64 (.ofNat 0)), (NV.int .i64 (.ofNat 0)), (NV.int .i64 (.ofNat 0)), NV.nslice, NV.nslice] [(NV.int .i64 (.ofNat 111)), (NV.int .i64 (.ofNat 2))]) fun v83 =>
 mK (bslM 2 false [(0, 5), (5, 5)] [(NV.int .i64 (.ofNat 0)), (NV.int .i64 (.ofNat 0)), (NV.int .i64 (.ofNat 0)), NV.nslice, NV.nslice, (NV.int .i64 (.ofNat 0)), (NV.int .i64 (.ofNat 0)), (NV.int .i64 (.ofNat 0)), NV.nslice, NV.nslice] [v82, v83] h81) fun v84 h85 =>
 bK (fAddr 8 v25) fun v86 =>
 mK (stM 1 v86 v84 h85) fun v87 h88 =>
 mK (bslM 4 true [(0, 1), (1, 1), (2, 1), (3, 1)] [(NV.int .u8 (.ofNat 0)), (NV.int .u8 (.ofNat 0)), (NV.int .u8 (.ofNat 0)), (NV.int .u8 (.ofNat 0))] [(NV.int .u8 (.ofNat 100)), (NV.int .u8 (.ofNat 97)), (NV.int .u8 (.ofNat 116)), (NV.int .u8 (.ofNat 97))] h88) fun v89 h90 =>
 mK (cvbM v89 h90) fun v91 h92 =>
 bK (bldO [(0, 1), (3, 1)] [(NV.int .i64 (.ofNat 0)), (NV.int .i64 (.ofNat 0)), NV.nslice, NV.nslice] [(NV.int .i64 (.ofNat 1)), v91]) fun v93 =>
 mK (bslM 1 false [(0, 4)] [(NV.int .i64 (.ofNat 0)), (NV.int .i64 (.ofNat 0)), NV.nslice, NV.nslice] [v93] h92) fun v94 h95 =>
 bK (fAddr 9 v25) fun v96 =>
 mK (stM 1 v96 v94 h95) fun v97 h98 =>
 bK (fAddr 10 v25) fun v99 =>
 mK (stM 1 v99 (NV.bool true) h98) fun v100 h101 =>
 bK (ldO 11 true h101 v25) fun v102 =>
 mK (stM 11 v8 v102 h101) fun v103 h104 =>
 bK (ldB 11 true h104 v8) fun v105 =>
 retC v105 h104)
theorem e5 : ikB Tryz.prog 9 Tryz.f5 = S5 := by kernel_rfl
theorem k5 [Sig] (w0 : World) : SOK cW w0 5 S5 := okW Tryz.func5 (by kernel_rfl) e5
noncomputable def S6 (call : CallF) (N : Nat) (l : List NV) (h : H) : R :=
 uc l fun v0 l1 => un l1 (
 mK (boxM false v0 h) fun v2 h3 =>
 bK (bldO [] [NV.nslice, NV.nslice, NV.nslice, NV.nslice, NV.nslice, NV.nslice, NV.nslice, NV.nslice] []) fun v4 =>
 mK (boxM false v4 h3) fun v5 h6 =>
 bK (fAddr 0 v2) fun v7 =>
 bK (ldO 1 false h6 (chkV h6 v7)) fun v8 =>
 bK (ixS 2 v8 (NV.int .i64 (.ofNat 2))) fun v9 =>
 bK (ldO 2 true h6 (chkV h6 v9)) fun v10 =>
 bK (bldO [(0, 2), (4, 1)] [NV.nslice, NV.nslice, (NV.int .i64 (.ofNat 0)), (NV.int .i64 (.ofNat 0)), (NV.int .i64 (.ofNat 0))] [v10, (NV.int .i64 (.ofNat 1))]) fun v11 =>
 bK (fAddr 0 v2) fun v12 =>
 bK (ldO 1 false h6 (chkV h6 v12)) fun v13 =>
 bK (ixS 2 v13 (NV.int .i64 (.ofNat 0))) fun v14 =>
 bK (ldO 2 true h6 (chkV h6 v14)) fun v15 =>
 bK (bldO [(0, 2)] [NV.nslice, NV.nslice, (NV.int .i64 (.ofNat 0)), (NV.int .i64 (.ofNat 0)), (NV.int .i64 (.ofNat 0))] [v15]) fun v16 =>
 bK (fAddr 0 v2) fun v17 =>
 bK (ldO 1 false h6 (chkV h6 v17)) fun v18 =>
 bK (ixS 2 v18 (NV.int .i64 (.ofNat 1))) fun v19 =>
 bK (ldO 2 true h6 (chkV h6 v19)) fun v20 =>
 bK (bldO [(0, 2), (3, 1)] [NV.nslice, NV.nslice, (NV.int .i64 (.ofNat 0)), (NV.int .i64 (.ofNat 0)), (NV.int .i64 (.ofNat 0))] [v20, (NV.int .i64 (.ofNat 1))]) fun v21 =>
 mK (bslM 3 false [(0, 5), (5, 5), (10, 5)] [NV.nslice, NV.nslice, (NV.int .i64 (.ofNat 0)), (NV.int .i64 (.ofNat 0)), (NV.int .i64 (.ofNat 0)), NV.nslice, NV.nslice, (NV.int .i64 (.ofNat 0)), (NV.int .i64 (.ofNat 0)), (NV.int .i64 (.ofNat 0)), NV.nslice, NV.nslice, (NV.int .i64 (.ofNat 0)), (NV.int .i64 (.ofNat 0)), (NV.int .i64 (.ofNat 0))] [(chkV h6 v11), (chkV h6 v16), (chkV h6 v21)] h6) fun v22 h23 =>
 bK (nilO v5) fun v24 =>
 bK (fAddr 0 v24) fun v25 =>
 mK (stM 1 (chkV h23 v25) (chkV h23 v22) h23) fun v26 h27 =>
 nextK h23 h27 (
 bK (bldO [(0, 1), (3, 1)] [(NV.int .i64 (.ofNat 0)), (NV.int .u64 (.ofNat 0)), (NV.int .u64 (.ofNat 0)), (NV.bool false)] [(NV.int .i64 (.ofNat 112)), (NV.bool true)]) fun v28 =>
 mK (alM (NB.cells [(NV.int .i64 (.ofNat 0)), (NV.int .u64 (.ofNat 0)), (NV.int .u64 (.ofNat 0)), (NV.bool false)]) h27) fun v29 h30 =>
 mK (stM 4 v29 v28 h30) fun v31 h32 =>
 bK (bldO [(0, 1), (3, 1)] [(NV.int .i64 (.ofNat 0)), (NV.int .u64 (.ofNat 0)), (NV.int .u64 (.ofNat 0)), (NV.bool false)] [(NV.int .i64 (.ofNat 111)), (NV.bool true)]) fun v33 =>
 mK (alM (NB.cells [(NV.int .i64 (.ofNat 0)), (NV.int .u64 (.ofNat 0)), (NV.int .u64 (.ofNat 0)), (NV.bool false)]) h32) fun v34 h35 =>
 mK (stM 4 v34 v33 h35) fun v36 h37 =>
 bK (fAddr 3 v2) fun v38 =>
 bK (ldO 1 false h37 (chkV h37 v38)) fun v39 =>
 bK (ixS 4 v39 (NV.int .i64 (.ofNat 0))) fun v40 =>
 bK (ldO 4 true h37 (chkV h37 v40)) fun v41 =>
 bK (bldO [(0, 1)] [(NV.int .i64 (.ofNat 0)), (NV.int .u64 (.ofNat 0)), (NV.int .u64 (.ofNat 0)), (NV.bool false)] [(NV.int .i64 (.ofNat 112))]) fun v42 =>
 bK (ldO 4 true h37 (chkV h37 v29)) fun v43 =>
 bK (bldO [(0, 1), (1, 1)] [(NV.int .i64 (.ofNat 0)), (NV.int .u64 (.ofNat 0)), (NV.int .u64 (.ofNat 0)), (NV.bool false)] [(NV.int .i64 (.ofNat 112)), (NV.int .u64 (.ofNat 2))]) fun v44 =>
 bK (fAddr 3 v2) fun v45 =>
 bK (ldO 1 false h37 (chkV h37 v45)) fun v46 =>
 bK (ixS 4 v46 (NV.int .i64 (.ofNat 1))) fun v47 =>
 bK (ldO 4 true h37 (chkV h37 v47)) fun v48 =>
 bK (ldO 4 true h37 (chkV h37 v34)) fun v49 =>
 bK (bldO [(0, 1), (1, 1)] [(NV.int .i64 (.ofNat 0)), (NV.int .u64 (.ofNat 0)), (NV.int .u64 (.ofNat 0)), (NV.bool false)] [(NV.int .i64 (.ofNat 111)), (NV.int .u64 (.ofNat 77))]) fun v50 =>
 mK (bslM 3 false [(0, 4), (4, 4), (8, 4)] [(NV.int .i64 (.ofNat 0)), (NV.int .u64 (.ofNat 0)), (NV.int .u64 (.ofNat 0)), (NV.bool false), (NV.int .i64 (.ofNat 0)), (NV.int .u64 (.ofNat 0)), (NV.int .u64 (.ofNat 0)), (NV.bool false), (NV.int .i64 (.ofNat 0)), (NV.int .u64 (.ofNat 0)), (NV.int .u64 (.ofNat 0)), (NV.bool false)] [(chkV h37 v42), (chkV h37 v43), (chkV h37 v44)] h37) fun v51 h52 =>
 bK (bldO [(0, 4), (4, 1)] [(NV.int .i64 (.ofNat 0)), (NV.int .i64 (.ofNat 0)), (NV.int .i64 (.ofNat 0)), (NV.bool false), NV.nslice] [v41, v51]) fun v53 =>
 mK (bslM 2 false [(0, 4), (4, 4)] [(NV.int .i64 (.ofNat 0)), (NV.int .u64 (.ofNat 0)), (NV.int .u64 (.ofNat 0)), (NV.bool false), (NV.int .i64 (.ofNat 0)), (NV.int .u64 (.ofNat 0)), (NV.int .u64 (.ofNat 0)), (NV.bool false)] [(chkV h52 v49), (chkV h52 v50)] h52) fun v54 h55 =>
 bK (bldO [(0, 4), (4, 1)] [(NV.int .i64 (.ofNat 0)), (NV.int .i64 (.ofNat 0)), (NV.int .i64 (.ofNat 0)), (NV.bool false), NV.nslice] [v48, v54]) fun v56 =>
 mK (bslM 2 false [(0, 5), (5, 5)] [(NV.int .i64 (.ofNat 0)), (NV.int .i64 (.ofNat 0)), (NV.int .i64 (.ofNat 0)), (NV.bool false), NV.nslice, (NV.int .i64 (.ofNat 0)), (NV.int .i64 (.ofNat 0)), (NV.int .i64 (.ofNat 0)), (NV.bool false), NV.nslice] [(chkV h55 v53), (chkV h55 v56)] h55) fun v57 h58 =>
 bK (nilO v5) fun v59 =>
 bK (fAddr 1 v59) fun v60 =>
 mK (stM 1 (chkV h58 v60) (chkV h58 v57) h58) fun v61 h62 =>
 nextK h58 h62 (
 mK (mslM 1 true (NV.int .u8 (.ofNat 0)) (NV.int .i64 (.ofNat 65536)) (NV.int .i64 (.ofNat 65536)) h62) fun v63 h64 =>
 joinC 4 (fun v65 v66 v67 v68 h69 =>
 bK (fAddr 4 v65) fun v71 =>
 bK (ldO 1 false h69 v71) fun v72 =>
 bK (ixS 3 v72 (NV.int .i64 (.ofNat 0))) fun v73 =>
 bK (ldO 3 true h69 v73) fun v74 =>
 bK (bldO [(0, 3), (3, 1)] [(NV.int .i64 (.ofNat 0)), (NV.int .i64 (.ofNat 0)), (NV.bool false), NV.nslice] [v74, v68]) fun v75 =>
 mK (bslM 1 false [(0, 4)] [(NV.int .i64 (.ofNat 0)), (NV.int .i64 (.ofNat 0)), (NV.bool false), NV.nslice] [v75] h69) fun v76 h77 =>
 bK (nilO v66) fun v78 =>
 bK (fAddr 2 v78) fun v79 =>
 mK (stM 1 v79 v76 h77) fun v80 h81 =>
 bK (bldO [(0, 1)] [(NV.int .i64 (.ofNat 0)), (NV.bool false)] [(NV.int .i64 (.ofNat 127))]) fun v82 =>
 bK (bldO [(0, 1), (1, 1)] [(NV.int .i64 (.ofNat 0)), (NV.int .u64 (.ofNat 0)), (NV.int .u64 (.ofNat 0)), (NV.bool false)] [(NV.int .i64 (.ofNat 127)), (NV.int .u64 (.ofNat 9))]) fun v83 =>
 bK (bldO [(0, 2), (2, 4)] [(NV.int .i64 (.ofNat 0)), (NV.bool false), (NV.int .i64 (.ofNat 0)), (NV.int .u64 (.ofNat 0)), (NV.int .u64 (.ofNat 0)), (NV.bool false)] [v82, v83]) fun v84 =>
 bK (fAddr 5 v65) fun v85 =>
 bK (ldO 1 false h81 (chkV h81 v85)) fun v86 =>
 bK (ixS 3 v86 (NV.int .i64 (.ofNat 0))) fun v87 =>
 bK (fAddr 0 v87) fun v88 =>
 bK (ldO 2 true h81 (chkV h81 v88)) fun v89 =>
 bK (bldO [(0, 1), (1, 1)] [(NV.int .i64 (.ofNat 0)), (NV.int .u64 (.ofNat 0)), (NV.int .u64 (.ofNat 0)), (NV.bool false)] [(NV.int .i64 (.ofNat 126)), (NV.int .u64 (.ofNat 5))]) fun v90 =>
 bK (bldO [(0, 2), (2, 4)] [(NV.int .i64 (.ofNat 0)), (NV.bool false), (NV.int .i64 (.ofNat 0)), (NV.int .u64 (.ofNat 0)), (NV.int .u64 (.ofNat 0)), (NV.bool false)] [v89, v90]) fun v91 =>
 bK (fAddr 5 v65) fun v92 =>
 bK (ldO 1 false h81 (chkV h81 v92)) fun v93 =>
 bK (ixS 3 v93 (NV.int .i64 (.ofNat 1))) fun v94 =>
 bK (fAddr 0 v94) fun v95 =>
 bK (ldO 2 true h81 (chkV h81 v95)) fun v96 =>
 bK (bldO [(0, 1), (1, 1)] [(NV.int .i64 (.ofNat 0)), (NV.int .u64 (.ofNat 0)), (NV.int .u64 (.ofNat 0)), (NV.bool false)] [(NV.int .i64 (.ofNat 112)), (NV.int .u64 (.ofNat 2))]) fun v97 =>
 bK (bldO [(0, 2), (2, 4)] [(NV.int .i64 (.ofNat 0)), (NV.bool false), (NV.int .i64 (.ofNat 0)), (NV.int .u64 (.ofNat 0)), (NV.int .u64 (.ofNat 0)), (NV.bool false)] [v96, v97]) fun v98 =>
 mK (bslM 3 false [(0, 6), (6, 6), (12, 6)] [(NV.int .i64 (.ofNat 0)), (NV.bool false), (NV.int .i64 (.ofNat 0)), (NV.int .u64 (.ofNat 0)), (NV.int .u64 (.ofNat 0)), (NV.bool false), (NV.int .i64 (.ofNat 0)), (NV.bool false), (NV.int .i64 (.ofNat 0)), (NV.int .u64 (.ofNat 0)), (NV.int .u64 (.ofNat 0)), (NV.bool false), (NV.int .i64 (.ofNat 0)), (NV.bool false), (NV.int .i64 (.ofNat 0)), (NV.int .u64 (.ofNat 0)), (NV.int .u64 (.ofNat 0)), (NV.bool false)] [(chkV h81 v84), (chkV h81 v91), (chkV h81 v98)] h81) fun v99 h100 =>
 bK (nilO v66) fun v101 =>
 bK (fAddr 3 v101) fun v102 =>
 mK (stM 1 (chkV h100 v102) (chkV h100 v99) h100) fun v103 h104 =>
 nextK h100 h104 (
 bK (bldO [(0, 1)] [(NV.int .i64 (.ofNat 0)), (NV.int .u64 (.ofNat 0)), (NV.int .u64 (.ofNat 0)), (NV.bool false)] [(NV.int .i64 (.ofNat 112))]) fun v105 =>
 bK (ldO 4 true h104 v67) fun v106 =>
 mK (bslM 2 false [(0, 4), (4, 4)] [(NV.int .i64 (.ofNat 0)), (NV.int .u64 (.ofNat 0)), (NV.int .u64 (.ofNat 0)), (NV.bool false), (NV.int .i64 (.ofNat 0)), (NV.int .u64 (.ofNat 0)), (NV.int .u64 (.ofNat 0)), (NV.bool false)] [v105, v106] h104) fun v107 h108 =>
 mK (bslM 2 false [(0, 1), (1, 1)] [NV.nslice, NV.nslice] [v107, NV.nslice] h108) fun v109 h110 =>
 bK (nilO v66) fun v111 =>
 bK (fAddr 4 v111) fun v112 =>
 mK (stM 1 v112 v109 h110) fun v113 h114 =>
 mK (bslM 4 true [(0, 1), (1, 1), (2, 1), (3, 1)] [(NV.int .u8 (.ofNat 0)), (NV.int .u8 (.ofNat 0)), (NV.int .u8 (.ofNat 0)), (NV.int .u8 (.ofNat 0))] [(NV.int .u8 (.ofNat 100)), (NV.int .u8 (.ofNat 97)), (NV.int .u8 (.ofNat 116)), (NV.int .u8 (.ofNat 97))] h114) fun v115 h116 =>
 mK (cvbM v115 h116) fun v117 h118 =>
 mK (bslM 1 false [(0, 1)] [NV.nslice] [v117] h118) fun v119 h120 =>
 bK (nilO v66) fun v121 =>
 bK (fAddr 5 v121) fun v122 =>
 mK (stM 1 v122 v119 h120) fun v123 h124 =>
 bK (ldO 11 true h124 v65) fun v125 =>
 mK (bslM 3 false [(0, 1), (1, 1), (2, 1)] [(NV.int .i64 (.ofNat 0)), (NV.int .i64 (.ofNat 0)), (NV.int .i64 (.ofNat 0))] [(NV.int .i64 (.ofNat 0)), (NV.int .i64 (.ofNat 1)), (NV.int .i64 (.ofNat 2))] h124) fun v126 h127 =>
 mK (bslM 2 false [(0, 1), (1, 1)] [(NV.int .i64 (.ofNat 0)), (NV.int .i64 (.ofNat 0))] [(NV.int .i64 (.ofNat 0)), (NV.int .i64 (.ofNat 1))] h127) fun v128 h129 =>
 mK (bslM 1 false [(0, 1)] [(NV.int .i64 (.ofNat 0))] [(NV.int .i64 (.ofNat 0))] h129) fun v130 h131 =>
 mK (bslM 3 false [(0, 1), (1, 1), (2, 1)] [(NV.int .i64 (.ofNat 0)), (NV.int .i64 (.ofNat 0)), (NV.int .i64 (.ofNat 0))] [(NV.int .i64 (.ofNat 0)), (NV.int .i64 (.ofNat 1)), (NV.int .i64 (.ofNat 2))] h131) fun v132 h133 =>
 mK (bslM 2 false [(0, 1), (1, 1)] [(NV.int .i64 (.ofNat 0)), (NV.int .i64 (.ofNat 0))] [(NV.int .i64 (.ofNat 0)), (NV.int .i64 (.ofNat 1))] h133) fun v134 h135 =>
 mK (bslM 1 false [(0, 1)] [(NV.int .i64 (.ofNat 0))] [(NV.int .i64 (.ofNat 0))] h135) fun v136 h137 =>
 bK (bldO [(0, 11), (11, 1), (12, 1), (13, 1), (14, 1), (15, 1), (16, 1)] [NV.nslice, NV.nslice, NV.nslice, NV.nslice, NV.nslice, NV.nslice, NV.nslice, (NV.int .i64 (.ofNat 0)), NV.nslice, NV.nslice, (NV.bool false), NV.nslice, NV.nslice, NV.nslice, NV.nslice, NV.nslice, NV.nslice, NV.nslice] [v125, v126, v128, v130, v132, v134, v136]) fun v138 =>
 mK (bslM 1 false [(0, 18)] [NV.nslice, NV.nslice, NV.nslice, NV.nslice, NV.nslice, NV.nslice, NV.nslice, (NV.int .i64 (.ofNat 0)), NV.nslice, NV.nslice, (NV.bool false), NV.nslice, NV.nslice, NV.nslice, NV.nslice, NV.nslice, NV.nslice, NV.nslice] [v138] h137) fun v139 h140 =>
 bK (nilO v66) fun v141 =>
 bK (fAddr 6 v141) fun v142 =>
 mK (stM 1 v142 v139 h140) fun v143 h144 =>
 retC v66 h144)) fun J70 =>
 loopC N 5 (fun L151 v145 v146 v147 v148 v149 h150 =>
 bK (ltI v149 (NV.int .i64 (.ofNat 64))) fun v152 =>
 condK v152 (
 bK (binO .mul v149 v149) fun v153 =>
 bK (binO .mul (NV.int .i64 (.ofNat 200)) v149) fun v154 =>
 bK (addI v153 v154) fun v155 =>
 bK (cvI .u8 v155) fun v156 =>
 bK (ixS 1 v148 v149) fun v157 =>
 mK (stM 1 v157 v156 h150) fun v158 h159 =>
 bK (addI v149 (NV.int .i64 (.ofNat 1))) fun v160 =>
 L151 v145 v146 v147 v148 v160 h159) (
 J70 v145 v146 v147 v148 h150)) v2 v5 v29 v63 (NV.int .i64 (.ofNat 0)) h64)))
theorem e6 : ikB Tryz.prog 9 Tryz.f6 = S6 := by kernel_rfl
theorem k6 [Sig] (w0 : World) : SOK cW w0 6 S6 := okW Tryz.func6 (by kernel_rfl) e6
noncomputable def S7 (call : CallF) (N : Nat) (l : List NV) (h : H) : R :=
 uc l fun v0 l1 => un l1 (
 bK (bldO [] [NV.nslice, NV.nslice, NV.nslice, NV.nslice, NV.nslice, NV.nslice, NV.nslice, NV.nslice] []) fun v2 =>
 mK (boxM false v2 h) fun v3 h4 =>
 joinC 2 (fun v5 v6 h7 =>
 joinC 2 (fun v9 v10 h11 =>
 joinC 2 (fun v13 v14 h15 =>
 joinC 2 (fun v17 v18 h19 =>
 joinC 2 (fun v21 v22 h23 =>
 joinC 2 (fun v25 v26 h27 =>
 joinC 1 (fun v29 h30 =>
 retC v29 h30) fun J31 =>
 loopC N 3 (fun L36 v32 v33 v34 h35 =>
 bK (nilO v32) fun v37 =>
 bK (fAddr 6 v37) fun v38 =>
 bK (ldO 1 false h35 v38) fun v39 =>
 bK (lenSl v39) fun v40 =>
 bK (ltI v34 v40) fun v41 =>
 condK v41 (
 bK (nilO v32) fun v42 =>
 bK (fAddr 6 v42) fun v43 =>
 bK (ldO 1 false h35 v43) fun v44 =>
 bK (ixS 18 v44 v34) fun v45 =>
 bK (ldO 18 true h35 v45) fun v46 =>
 mK (alM (NB.cells [NV.nslice, NV.nslice, NV.nslice, NV.nslice, NV.nslice, NV.nslice, NV.nslice, (NV.int .i64 (.ofNat 0)), NV.nslice, NV.nslice, (NV.bool false), NV.nslice, NV.nslice, NV.nslice, NV.nslice, NV.nslice, NV.nslice, NV.nslice]) h35) fun v47 h48 =>
 mK (stM 18 v47 v46 h48) fun v49 h50 =>
 bK (nilO v33) fun v51 =>
 bK (fAddr 6 v51) fun v52 =>
 bK (ldO 1 false h50 (chkV h50 v52)) fun v53 =>
 bK (fAddr 0 v47) fun v54 =>
 bK (ldO 11 true h50 (chkV h50 v54)) fun v55 =>
 bK (fAddr 11 v47) fun v56 =>
 bK (ldO 1 false h50 (chkV h50 v56)) fun v57 =>
 bK (fAddr 12 v47) fun v58 =>
 bK (ldO 1 false h50 (chkV h50 v58)) fun v59 =>
 bK (fAddr 13 v47) fun v60 =>
 bK (ldO 1 false h50 (chkV h50 v60)) fun v61 =>
 bK (fAddr 14 v47) fun v62 =>
 bK (ldO 1 false h50 (chkV h50 v62)) fun v63 =>
 bK (fAddr 15 v47) fun v64 =>
 bK (ldO 1 false h50 (chkV h50 v64)) fun v65 =>
 bK (fAddr 16 v47) fun v66 =>
 bK (ldO 1 false h50 (chkV h50 v66)) fun v67 =>
 bK (bldO [(0, 11), (11, 1), (12, 1), (13, 1), (14, 1), (15, 1), (16, 1)] [NV.nslice, NV.nslice, NV.nslice, NV.nslice, NV.nslice, NV.nslice, NV.nslice, (NV.int .i64 (.ofNat 0)), NV.nslice, NV.nslice, (NV.bool false), NV.nslice, NV.nslice, NV.nslice, NV.nslice, NV.nslice, NV.nslice, NV.nslice] [v55, v57, v59, v61, v63, v65, v67]) fun v68 =>
 mK (boxM false (chkV h50 v68) h50) fun v69 h70 =>
 mK (bslM 1 false [(0, 1)] [NV.nilptr] [(chkV h70 v69)] h70) fun v71 h72 =>
 mK (appM Tryz.prog 113 (chkV h72 v53) (chkV h72 v71) h72) fun v73 h74 =>
 nextK h72 h74 (
 bK (nilO v33) fun v75 =>
 bK (fAddr 6 v75) fun v76 =>
 mK (stM 1 (chkV h74 v76) (chkV h74 v73) h74) fun v77 h78 =>
 nextK h74 h78 (
 bK (addI v34 (NV.int .i64 (.ofNat 1))) fun v79 =>
 L36 v32 v33 v79 h78))) (
 J31 v33 h35)) v25 v26 (NV.int .i64 (.ofNat 0)) h27) fun J28 =>
 loopC N 3 (fun L84 v80 v81 v82 h83 =>
 bK (nilO v80) fun v85 =>
 bK (fAddr 5 v85) fun v86 =>
 bK (ldO 1 false h83 v86) fun v87 =>
 bK (lenSl v87) fun v88 =>
 bK (ltI v82 v88) fun v89 =>
 condK v89 (
 bK (nilO v81) fun v90 =>
 bK (fAddr 5 v90) fun v91 =>
 bK (ldO 1 false h83 (chkV h83 v91)) fun v92 =>
 bK (nilO v80) fun v93 =>
 bK (fAddr 5 v93) fun v94 =>
 bK (ldO 1 false h83 (chkV h83 v94)) fun v95 =>
 bK (ixS 1 v95 v82) fun v96 =>
 bK (ldO 1 false h83 (chkV h83 v96)) fun v97 =>
 mK (appM Tryz.prog 5 (chkV h83 NV.nslice) (chkV h83 v97) h83) fun v98 h99 =>
 nextK h83 h99 (
 bK (ldO 1 false h99 (chkV h99 v91)) fun v100 =>
 sameK v100 v92 (
 mK (bslM 1 false [(0, 1)] [NV.nslice] [(chkV h99 v98)] h99) fun v101 h102 =>
 mK (appM Tryz.prog 74 (chkV h102 v92) (chkV h102 v101) h102) fun v103 h104 =>
 nextK h102 h104 (
 bK (nilO v81) fun v105 =>
 bK (fAddr 5 v105) fun v106 =>
 mK (stM 1 (chkV h104 v106) (chkV h104 v103) h104) fun v107 h108 =>
 nextK h104 h108 (
 bK (addI v82 (NV.int .i64 (.ofNat 1))) fun v109 =>
 L84 v80 v81 v109 h108))))) (
 J28 v80 v81 h83)) v21 v22 (NV.int .i64 (.ofNat 0)) h23) fun J24 =>
 loopC N 3 (fun L114 v110 v111 v112 h113 =>
 bK (nilO v110) fun v115 =>
 bK (fAddr 4 v115) fun v116 =>
 bK (ldO 1 false h113 v116) fun v117 =>
 bK (lenSl v117) fun v118 =>
 bK (ltI v112 v118) fun v119 =>
 condK v119 (
 bK (nilO v111) fun v120 =>
 bK (fAddr 4 v120) fun v121 =>
 bK (ldO 1 false h113 (chkV h113 v121)) fun v122 =>
 bK (nilO v110) fun v123 =>
 bK (fAddr 4 v123) fun v124 =>
 bK (ldO 1 false h113 (chkV h113 v124)) fun v125 =>
 bK (ixS 1 v125 v112) fun v126 =>
 bK (ldO 1 false h113 (chkV h113 v126)) fun v127 =>
 mK (appM Tryz.prog 24 (chkV h113 NV.nslice) (chkV h113 v127) h113) fun v128 h129 =>
 nextK h113 h129 (
 bK (ldO 1 false h129 (chkV h129 v121)) fun v130 =>
 sameK v130 v122 (
 mK (bslM 1 false [(0, 1)] [NV.nslice] [(chkV h129 v128)] h129) fun v131 h132 =>
 mK (appM Tryz.prog 25 (chkV h132 v122) (chkV h132 v131) h132) fun v133 h134 =>
 nextK h132 h134 (
 bK (nilO v111) fun v135 =>
 bK (fAddr 4 v135) fun v136 =>
 mK (stM 1 (chkV h134 v136) (chkV h134 v133) h134) fun v137 h138 =>
 nextK h134 h138 (
 bK (addI v112 (NV.int .i64 (.ofNat 1))) fun v139 =>
 L114 v110 v111 v139 h138))))) (
 J24 v110 v111 h113)) v17 v18 (NV.int .i64 (.ofNat 0)) h19) fun J20 =>
 loopC N 3 (fun L144 v140 v141 v142 h143 =>
 bK (nilO v140) fun v145 =>
 bK (fAddr 3 v145) fun v146 =>
 bK (ldO 1 false h143 v146) fun v147 =>
 bK (lenSl v147) fun v148 =>
 bK (ltI v142 v148) fun v149 =>
 condK v149 (
 bK (nilO v141) fun v150 =>
 bK (fAddr 3 v150) fun v151 =>
 bK (ldO 1 false h143 (chkV h143 v151)) fun v152 =>
 bK (nilO v140) fun v153 =>
 bK (fAddr 3 v153) fun v154 =>
 bK (ldO 1 false h143 (chkV h143 v154)) fun v155 =>
 bK (ixS 6 v155 v142) fun v156 =>
 bK (fAddr 0 v156) fun v157 =>
 bK (ldO 2 true h143 (chkV h143 v157)) fun v158 =>
 bK (nilO v140) fun v159 =>
 bK (fAddr 3 v159) fun v160 =>
 bK (ldO 1 false h143 (chkV h143 v160)) fun v161 =>
 bK (ixS 6 v161 v142) fun v162 =>
 bK (fAddr 2 v162) fun v163 =>
 bK (ldO 4 true h143 (chkV h143 v163)) fun v164 =>
 bK (bldO [(0, 2), (2, 4)] [(NV.int .i64 (.ofNat 0)), (NV.bool false), (NV.int .i64 (.ofNat 0)), (NV.int .u64 (.ofNat 0)), (NV.int .u64 (.ofNat 0)), (NV.bool false)] [v158, v164]) fun v165 =>
 mK (boxM false (chkV h143 v165) h143) fun v166 h167 =>
 mK (bslM 1 false [(0, 1)] [NV.nilptr] [(chkV h167 v166)] h167) fun v168 h169 =>
 mK (appM Tryz.prog 111 (chkV h169 v152) (chkV h169 v168) h169) fun v170 h171 =>
 nextK h169 h171 (
 bK (nilO v141) fun v172 =>
 bK (fAddr 3 v172) fun v173 =>
 mK (stM 1 (chkV h171 v173) (chkV h171 v170) h171) fun v174 h175 =>
 nextK h171 h175 (
 bK (addI v142 (NV.int .i64 (.ofNat 1))) fun v176 =>
 L144 v140 v141 v176 h175))) (
 J20 v140 v141 h143)) v13 v14 (NV.int .i64 (.ofNat 0)) h15) fun J16 =>
 loopC N 3 (fun L181 v177 v178 v179 h180 =>
 bK (nilO v177) fun v182 =>
 bK (fAddr 2 v182) fun v183 =>
 bK (ldO 1 false h180 v183) fun v184 =>
 bK (lenSl v184) fun v185 =>
 bK (ltI v179 v185) fun v186 =>
 condK v186 (
 bK (nilO v177) fun v187 =>
 bK (fAddr 2 v187) fun v188 =>
 bK (ldO 1 false h180 v188) fun v189 =>
 bK (ixS 4 v189 v179) fun v190 =>
 bK (fAddr 3 v190) fun v191 =>
 bK (ldO 1 false h180 v191) fun v192 =>
 mK (appM Tryz.prog 5 NV.nslice v192 h180) fun v193 h194 =>
 bK (nilO v178) fun v195 =>
 bK (fAddr 2 v195) fun v196 =>
 bK (ldO 1 false h194 (chkV h194 v196)) fun v197 =>
 bK (nilO v177) fun v198 =>
 bK (fAddr 2 v198) fun v199 =>
 bK (ldO 1 false h194 (chkV h194 v199)) fun v200 =>
 bK (ixS 4 v200 v179) fun v201 =>
 bK (fAddr 0 v201) fun v202 =>
 bK (ldO 3 true h194 (chkV h194 v202)) fun v203 =>
 bK (bldO [(0, 3), (3, 1)] [(NV.int .i64 (.ofNat 0)), (NV.int .i64 (.ofNat 0)), (NV.bool false), NV.nslice] [v203, v193]) fun v204 =>
 mK (boxM false (chkV h194 v204) h194) fun v205 h206 =>
 mK (bslM 1 false [(0, 1)] [NV.nilptr] [(chkV h206 v205)] h206) fun v207 h208 =>
 mK (appM Tryz.prog 109 (chkV h208 v197) (chkV h208 v207) h208) fun v209 h210 =>
 nextK h208 h210 (
 bK (nilO v178) fun v211 =>
 bK (fAddr 2 v211) fun v212 =>
 mK (stM 1 (chkV h210 v212) (chkV h210 v209) h210) fun v213 h214 =>
 nextK h210 h214 (
 bK (addI v179 (NV.int .i64 (.ofNat 1))) fun v215 =>
 L181 v177 v178 v215 h214))) (
 J16 v177 v178 h180)) v9 v10 (NV.int .i64 (.ofNat 0)) h11) fun J12 =>
 loopC N 3 (fun L220 v216 v217 v218 h219 =>
 bK (nilO v216) fun v221 =>
 bK (fAddr 1 v221) fun v222 =>
 bK (ldO 1 false h219 v222) fun v223 =>
 bK (lenSl v223) fun v224 =>
 bK (ltI v218 v224) fun v225 =>
 condK v225 (
 bK (nilO v216) fun v226 =>
 bK (fAddr 1 v226) fun v227 =>
 bK (ldO 1 false h219 v227) fun v228 =>
 bK (ixS 5 v228 v218) fun v229 =>
 bK (fAddr 4 v229) fun v230 =>
 bK (ldO 1 false h219 v230) fun v231 =>
 mK (appM Tryz.prog 24 NV.nslice v231 h219) fun v232 h233 =>
 bK (nilO v217) fun v234 =>
 bK (fAddr 1 v234) fun v235 =>
 bK (ldO 1 false h233 (chkV h233 v235)) fun v236 =>
 bK (nilO v216) fun v237 =>
 bK (fAddr 1 v237) fun v238 =>
 bK (ldO 1 false h233 (chkV h233 v238)) fun v239 =>
 bK (ixS 5 v239 v218) fun v240 =>
 bK (fAddr 0 v240) fun v241 =>
 bK (ldO 4 true h233 (chkV h233 v241)) fun v242 =>
 bK (bldO [(0, 4), (4, 1)] [(NV.int .i64 (.ofNat 0)), (NV.int .i64 (.ofNat 0)), (NV.int .i64 (.ofNat 0)), (NV.bool false), NV.nslice] [v242, v232]) fun v243 =>
 mK (boxM false (chkV h233 v243) h233) fun v244 h245 =>
 mK (bslM 1 false [(0, 1)] [NV.nilptr] [(chkV h245 v244)] h245) fun v246 h247 =>
 mK (appM Tryz.prog 107 (chkV h247 v236) (chkV h247 v246) h247) fun v248 h249 =>
 nextK h247 h249 (
 bK (nilO v217) fun v250 =>
 bK (fAddr 1 v250) fun v251 =>
 mK (stM 1 (chkV h249 v251) (chkV h249 v248) h249) fun v252 h253 =>
 nextK h249 h253 (
 bK (addI v218 (NV.int .i64 (.ofNat 1))) fun v254 =>
 L220 v216 v217 v254 h253))) (
 J12 v216 v217 h219)) v5 v6 (NV.int .i64 (.ofNat 0)) h7) fun J8 =>
 loopC N 3 (fun L259 v255 v256 v257 h258 =>
 bK (nilO v255) fun v260 =>
 bK (fAddr 0 v260) fun v261 =>
 bK (ldO 1 false h258 v261) fun v262 =>
 bK (lenSl v262) fun v263 =>
 bK (ltI v257 v263) fun v264 =>
 condK v264 (
 bK (nilO v255) fun v265 =>
 bK (fAddr 0 v265) fun v266 =>
 bK (ldO 1 false h258 v266) fun v267 =>
 bK (ixS 5 v267 v257) fun v268 =>
 bK (ldO 5 true h258 v268) fun v269 =>
 mK (alM (NB.cells [NV.nslice, NV.nslice, (NV.int .i64 (.ofNat 0)), (NV.int .i64 (.ofNat 0)), (NV.int .i64 (.ofNat 0))]) h258) fun v270 h271 =>
 mK (stM 5 v270 v269 h271) fun v272 h273 =>
 bK (nilO v256) fun v274 =>
 bK (fAddr 0 v274) fun v275 =>
 bK (ldO 1 false h273 (chkV h273 v275)) fun v276 =>
 bK (fAddr 0 v270) fun v277 =>
 bK (ldO 2 true h273 (chkV h273 v277)) fun v278 =>
 bK (fAddr 2 v270) fun v279 =>
 bK (ldO 1 false h273 (chkV h273 v279)) fun v280 =>
 bK (fAddr 3 v270) fun v281 =>
 bK (ldO 1 false h273 (chkV h273 v281)) fun v282 =>
 bK (fAddr 4 v270) fun v283 =>
 bK (ldO 1 false h273 (chkV h273 v283)) fun v284 =>
 bK (bldO [(0, 2), (2, 1), (3, 1), (4, 1)] [NV.nslice, NV.nslice, (NV.int .i64 (.ofNat 0)), (NV.int .i64 (.ofNat 0)), (NV.int .i64 (.ofNat 0))] [v278, v280, v282, v284]) fun v285 =>
 mK (bslM 1 false [(0, 5)] [NV.nslice, NV.nslice, (NV.int .i64 (.ofNat 0)), (NV.int .i64 (.ofNat 0)), (NV.int .i64 (.ofNat 0))] [(chkV h273 v285)] h273) fun v286 h287 =>
 mK (appM Tryz.prog 106 (chkV h287 v276) (chkV h287 v286) h287) fun v288 h289 =>
 nextK h287 h289 (
 bK (nilO v256) fun v290 =>
 bK (fAddr 0 v290) fun v291 =>
 mK (stM 1 (chkV h289 v291) (chkV h289 v288) h289) fun v292 h293 =>
 nextK h289 h293 (
 bK (addI v257 (NV.int .i64 (.ofNat 1))) fun v294 =>
 L259 v255 v256 v294 h293))) (
 J8 v255 v256 h258)) v0 v3 (NV.int .i64 (.ofNat 0)) h4)
theorem e7 : ikB Tryz.prog 9 Tryz.f7 = S7 := by kernel_rfl
theorem k7 [Sig] (w0 : World) : SOK cW w0 7 S7 := okW Tryz.func7 (by kernel_rfl) e7
noncomputable def S8 (call : CallF) (N : Nat) (l : List NV) (h : H) : R :=
 uc l fun v0 l1 => uc l1 fun v2 l3 => uc l3 fun v4 l5 => uc l5 fun v6 l7 => un l7 (
 mK (boxM false v6 h) fun v8 h9 =>
 bK (eqD Tryz.prog .eql 46 h9 v0 NV.nilptr) fun v10 =>
 jK (fun v11 h12 =>
 jK (fun v14 h15 =>
 bK (pickO v10 (NV.bool true) v14) fun v17 =>
 jK (fun v18 h19 =>
 jK (fun v21 h22 =>
 jK (fun v24 h25 =>
 jK (fun v27 h28 =>
 jK (fun v30 h31 =>
 jK (fun v33 h34 =>
 jK (fun v36 h37 =>
 bK (pickO v17 (NV.bool true) v36) fun v39 =>
 jK (fun v40 h41 =>
 jK (fun v43 h44 =>
 jK (fun v46 h47 =>
 bK (pickO v39 (NV.bool true) v46) fun v49 =>
 jK (fun v50 h51 =>
 jK (fun v53 h54 =>
 jK (fun v56 h57 =>
 bK (pickO v49 (NV.bool true) v56) fun v59 =>
 jK (fun v60 h61 =>
 jK (fun v63 h64 =>
 jK (fun v66 h67 =>
 bK (pickO v59 (NV.bool true) v66) fun v69 =>
 condK v69 (
 retC (NV.tuple [NV.nslice, (NV.int .i64 (.ofNat 0)), (NV.int .i64 (.ofNat 1))]) h67) (
 bK (nilO v0) fun v70 =>
 bK (fAddr 0 v70) fun v71 =>
 bK (ldO 1 false h67 v71) fun v72 =>
 bK (ixS 5 v72 v2) fun v73 =>
 bK (fAddr 0 v73) fun v74 =>
 bK (ldO 2 true h67 v74) fun v75 =>
 mK (alM (NB.cells [NV.nslice, NV.nslice]) h67) fun v76 h77 =>
 mK (stM 2 v76 v75 h77) fun v78 h79 =>
 bK (lenSl v4) fun v80 =>
 bK (fAddr 0 v76) fun v81 =>
 bK (ldO 1 false h79 v81) fun v82 =>
 bK (lenSl v82) fun v83 =>
 bK (neI v80 v83) fun v84 =>
 condK v84 (
 retC (NV.tuple [NV.nslice, (NV.int .i64 (.ofNat 0)), (NV.int .i64 (.ofNat 61))]) h79) (
 bK (lenSl v4) fun v85 =>
 joinC 4 (fun v86 v87 v88 v89 h90 =>
 bK (ldO 3 true h90 (chkV h90 v89)) fun v92 =>
 mK (calM call 11 [(chkV h90 v88)] h90) fun v93 h94 =>
 nextK h90 h94 (
 bK (ldO 3 true h94 (chkV h94 v89)) fun v95 =>
 sameK v95 v92 (
 mK (mapM none h94) fun v96 h97 =>
 bK (bldO [(0, 1), (1, 3), (6, 1), (7, 1)] [NV.nilptr, (NV.int .i64 (.ofNat 0)), (NV.int .i64 (.ofNat 0)), (NV.int .i64 (.ofNat 0)), (NV.int .i64 (.ofNat 0)), NV.nslice, NV.nslice, NV.nmap] [v86, v92, v93, v96]) fun v98 =>
 mK (boxM false (chkV h97 v98) h97) fun v99 h100 =>
 mK (calM call 12 [v99, v87] h100) fun v101 h102 =>
 joinC 2 (fun v103 v104 h105 =>
 bK (neI v104 (NV.int .i64 (.ofNat 0))) fun v107 =>
 condK v107 (
 bK (nilO v103) fun v108 =>
 bK (fAddr 4 v108) fun v109 =>
 bK (ldO 1 false h105 (chkV h105 v109)) fun v110 =>
 retC (NV.tuple [NV.nslice, v110, v104]) h105) (
 bK (nilO v103) fun v111 =>
 bK (fAddr 6 v111) fun v112 =>
 bK (ldO 1 false h105 (chkV h105 v112)) fun v113 =>
 bK (nilO v103) fun v114 =>
 bK (fAddr 4 v114) fun v115 =>
 bK (ldO 1 false h105 (chkV h105 v115)) fun v116 =>
 retC (NV.tuple [v113, v116, (NV.int .i64 (.ofNat 0))]) h105)) fun J106 =>
 loopC N 2 (fun L120 v117 v118 h119 =>
 bK (eqI v118 (NV.int .i64 (.ofNat 0))) fun v121 =>
 jK (fun v122 h123 =>
 jK (fun v125 h126 =>
 jK (fun v128 h129 =>
 jK (fun v131 h132 =>
 jK (fun v134 h135 =>
 jK (fun v137 h138 =>
 bK (pickO v121 v137 (NV.bool false)) fun v140 =>
 condK v140 (
 mK (calM call 13 [v117] h138) fun v141 h142 =>
 L120 v117 v141 h142) (
 J106 v117 v118 h138)) fun J139 => gK v121 true (
 bK (gtI v134 (NV.int .i64 (.ofNat 0))) fun v143 =>
 J139 v143 h135) (J139 (NV.tuple []) h135)) fun J136 => gK v121 true (
 bK (lenSl v131) fun v144 =>
 J136 v144 h132) (J136 (NV.tuple []) h132)) fun J133 => gK v121 true (
 bK (ldO 1 false h129 v128) fun v145 =>
 J133 v145 h129) (J133 (NV.tuple []) h129)) fun J130 => gK v121 true (
 bK (fAddr 5 v125) fun v146 =>
 J130 v146 h126) (J130 (NV.tuple []) h126)) fun J127 => gK v121 true (
 bK (nilO v122) fun v147 =>
 J127 v147 h123) (J127 (NV.tuple []) h123)) fun J124 => gK v121 true (
 J124 v117 h119) (J124 (NV.tuple []) h119)) v99 v101 h102))) fun J91 =>
 loopC N 8 (fun L157 v148 v149 v150 v151 v152 v153 v154 v155 h156 =>
 bK (ltI v155 v154) fun v158 =>
 condK v158 (
 bK (ixS 4 v153 v155) fun v159 =>
 bK (ldO 4 true h156 v159) fun v160 =>
 mK (alM (NB.cells [(NV.int .i64 (.ofNat 0)), (NV.int .u64 (.ofNat 0)), (NV.int .u64 (.ofNat 0)), (NV.bool false)]) h156) fun v161 h162 =>
 mK (stM 4 v161 v160 h162) fun v163 h164 =>
 bK (ldO 4 true h164 (chkV h164 v161)) fun v165 =>
 bK (fAddr 0 v152) fun v166 =>
 bK (ldO 1 false h164 (chkV h164 v166)) fun v167 =>
 bK (ixS 1 v167 v155) fun v168 =>
 bK (ldO 1 false h164 (chkV h164 v168)) fun v169 =>
 mK (calM call 9 [(chkV h164 v148), (chkV h164 v165), (chkV h164 v169)] h164) fun v170 h171 =>
 nextK h164 h171 (
 bK (notO v170) fun v172 =>
 condK v172 (
 retC (NV.tuple [NV.nslice, (NV.int .i64 (.ofNat 0)), (NV.int .i64 (.ofNat 61))]) h171) (
 bK (addI v155 (NV.int .i64 (.ofNat 1))) fun v173 =>
 L157 v148 v149 v150 v151 v152 v153 v154 v173 h171))) (
 J91 v148 v149 v150 v151 h156)) v0 v2 v4 v8 v76 v4 v85 (NV.int .i64 (.ofNat 0)) h79))) fun J68 => gK v59 false (
 bK (ltI v63 (NV.int .i64 (.ofNat 0))) fun v174 =>
 J68 v174 h64) (J68 (NV.tuple []) h64)) fun J65 => gK v59 false (
 bK (ldO 1 false h61 v60) fun v175 =>
 J65 v175 h61) (J65 (NV.tuple []) h61)) fun J62 => gK v59 false (
 bK (fAddr 2 v8) fun v176 =>
 J62 v176 h57) (J62 (NV.tuple []) h57)) fun J58 => gK v49 false (
 bK (ltI v53 (NV.int .i64 (.ofNat 0))) fun v177 =>
 J58 v177 h54) (J58 (NV.tuple []) h54)) fun J55 => gK v49 false (
 bK (ldO 1 false h51 v50) fun v178 =>
 J55 v178 h51) (J55 (NV.tuple []) h51)) fun J52 => gK v49 false (
 bK (fAddr 1 v8) fun v179 =>
 J52 v179 h47) (J52 (NV.tuple []) h47)) fun J48 => gK v39 false (
 bK (ltI v43 (NV.int .i64 (.ofNat 0))) fun v180 =>
 J48 v180 h44) (J48 (NV.tuple []) h44)) fun J45 => gK v39 false (
 bK (ldO 1 false h41 v40) fun v181 =>
 J45 v181 h41) (J45 (NV.tuple []) h41)) fun J42 => gK v39 false (
 bK (fAddr 0 v8) fun v182 =>
 J42 v182 h37) (J42 (NV.tuple []) h37)) fun J38 => gK v17 false (
 bK (geI v18 v33) fun v183 =>
 J38 v183 h34) (J38 (NV.tuple []) h34)) fun J35 => gK v17 false (
 bK (lenSl v30) fun v184 =>
 J35 v184 h31) (J35 (NV.tuple []) h31)) fun J32 => gK v17 false (
 bK (ldO 1 false h28 v27) fun v185 =>
 J32 v185 h28) (J32 (NV.tuple []) h28)) fun J29 => gK v17 false (
 bK (fAddr 0 v24) fun v186 =>
 J29 v186 h25) (J29 (NV.tuple []) h25)) fun J26 => gK v17 false (
 bK (nilO v21) fun v187 =>
 J26 v187 h22) (J26 (NV.tuple []) h22)) fun J23 => gK v17 false (
 J23 v0 h19) (J23 (NV.tuple []) h19)) fun J20 => gK v17 false (
 J20 v2 h15) (J20 (NV.tuple []) h15)) fun J16 => gK v10 false (
 bK (ltI v11 (NV.int .i64 (.ofNat 0))) fun v188 =>
 J16 v188 h12) (J16 (NV.tuple []) h12)) fun J13 => gK v10 false (
 J13 v2 h9) (J13 (NV.tuple []) h9))
theorem e8 : ikB Tryz.prog 9 Tryz.f8 = S8 := by kernel_rfl
theorem k8 [Sig] (w0 : World) : SOK cW w0 8 S8 := okW Tryz.func8 (by kernel_rfl) e8
noncomputable def S9 (call : CallF) (N : Nat) (l : List NV) (h : H) : R :=
 uc l fun v0 l1 => uc l1 fun v2 l3 => uc l3 fun v4 l5 => un l5 (
 mK (boxM false v2 h) fun v6 h7 =>
 bK (eqD Tryz.prog .eql 46 h7 v0 NV.nilptr) fun v8 =>
 condK v8 (
 retC (NV.bool false) h7) (
 bK (fAddr 1 v6) fun v9 =>
 bK (ldO 1 false h7 v9) fun v10 =>
 bK (bldO [(0, 1), (1, 1)] [(NV.int .i64 (.ofNat 0)), (NV.int .u64 (.ofNat 0)), (NV.int .u64 (.ofNat 0)), (NV.bool false)] [v4, v10]) fun v11 =>
 mK (alM (NB.cells [(NV.int .i64 (.ofNat 0)), (NV.int .u64 (.ofNat 0)), (NV.int .u64 (.ofNat 0)), (NV.bool false)]) h7) fun v12 h13 =>
 mK (stM 4 v12 v11 h13) fun v14 h15 =>
 bK (eqI v4 (NV.int .i64 (.ofNat 127))) fun v16 =>
 joinC 6 (fun v17 v18 v19 v20 v21 v22 h23 =>
 joinC 2 (fun v25 v26 h27 =>
 bK (ldO 4 true h27 v25) fun v29 =>
 bK (ldO 4 true h27 v26) fun v30 =>
 bK (eqD Tryz.prog .eql 24 h27 v29 v30) fun v31 =>
 retC v31 h27) fun J28 =>
 condK v22 (
 bK (fAddr 1 v20) fun v32 =>
 bK (ldO 1 false h23 v32) fun v33 =>
 bK (binO .and v33 (NV.int .u64 (.ofNat 4294967295))) fun v34 =>
 bK (fAddr 1 v20) fun v35 =>
 mK (stM 1 v35 v34 h23) fun v36 h37 =>
 J28 v19 v20 h37) (
 bK (eqI v21 (NV.int .i64 (.ofNat 126))) fun v38 =>
 joinC 6 (fun v39 v40 v41 v42 v43 v44 h45 =>
 condK v44 (
 J28 v41 v42 h45) (
 bK (eqI v43 (NV.int .i64 (.ofNat 123))) fun v47 =>
 condK v47 (
 bK (fAddr 2 v41) fun v48 =>
 bK (ldO 1 false h45 v48) fun v49 =>
 bK (fAddr 2 v42) fun v50 =>
 mK (stM 1 v50 v49 h45) fun v51 h52 =>
 J28 v41 v42 h52) (
 bK (eqI v43 (NV.int .i64 (.ofNat 112))) fun v53 =>
 joinC 5 (fun v54 v55 v56 v57 v58 h59 =>
 condK v58 (
 bK (fAddr 3 v56) fun v61 =>
 bK (ldO 1 false h59 v61) fun v62 =>
 condK v62 (
 mK (calM call 14 [v55] h59) fun v63 h64 =>
 mK (stM 4 v57 v63 h64) fun v65 h66 =>
 J28 v56 v57 h66) (
 bK (eqI v55 (NV.int .i64 (.ofNat 112))) fun v67 =>
 jK (fun v68 h69 =>
 jK (fun v71 h72 =>
 jK (fun v74 h75 =>
 jK (fun v77 h78 =>
 jK (fun v80 h81 =>
 jK (fun v83 h84 =>
 jK (fun v86 h87 =>
 jK (fun v89 h90 =>
 jK (fun v92 h93 =>
 bK (pickO v67 v92 (NV.bool false)) fun v95 =>
 condK v95 (
 retC (NV.bool false) h59) (
 J28 v56 v57 h59)) fun J94 => gK v67 true (
 bK (geI v71 v89) fun v96 =>
 J94 v96 h59) (J94 (NV.tuple []) h59)) fun J91 => gK v67 true (
 bK (cvI .u64 v86) fun v97 =>
 J91 v97 h59) (J91 (NV.tuple []) h59)) fun J88 => gK v67 true (
 bK (lenSl v83) fun v98 =>
 J88 v98 h59) (J88 (NV.tuple []) h59)) fun J85 => gK v67 true (
 bK (ldO 1 false h59 (chkV h59 v80)) fun v99 =>
 J85 v99 h59) (J85 (NV.tuple []) h59)) fun J82 => gK v67 true (
 bK (fAddr 0 v77) fun v100 =>
 J82 v100 h59) (J82 (NV.tuple []) h59)) fun J79 => gK v67 true (
 bK (nilO v74) fun v101 =>
 J79 v101 h59) (J79 (NV.tuple []) h59)) fun J76 => gK v67 true (
 J76 v54 h59) (J76 (NV.tuple []) h59)) fun J73 => gK v67 true (
 bK (ldO 1 false h59 (chkV h59 v68)) fun v102 =>
 J73 v102 h59) (J73 (NV.tuple []) h59)) fun J70 => gK v67 true (
 bK (fAddr 1 v56) fun v103 =>
 J70 v103 h59) (J70 (NV.tuple []) h59))) (
 retC (NV.bool false) h59)) fun J60 =>
 condK v53 (
 J60 v39 v40 v41 v42 v53 h45) (
 bK (eqI v43 (NV.int .i64 (.ofNat 111))) fun v104 =>
 J60 v39 v40 v41 v42 v104 h45)))) fun J46 =>
 condK v38 (
 J46 v17 v18 v19 v20 v21 v38 h23) (
 bK (eqI v21 (NV.int .i64 (.ofNat 124))) fun v105 =>
 J46 v17 v18 v19 v20 v21 v105 h23))) fun J24 =>
 condK v16 (
 J24 v0 v4 v6 v12 v4 v16 h15) (
 bK (eqI v4 (NV.int .i64 (.ofNat 125))) fun v106 =>
 J24 v0 v4 v6 v12 v4 v106 h15)))
theorem e9 : ikB Tryz.prog 9 Tryz.f9 = S9 := by kernel_rfl
theorem k9 [Sig] (w0 : World) : SOK cW w0 9 S9 := okW Tryz.func9 (by kernel_rfl) e9
noncomputable def S10 (call : CallF) (N : Nat) (l : List NV) (h : H) : R :=
 uc l fun v0 l1 => uc l1 fun v2 l3 => uc l3 fun v4 l5 => un l5 (
 mK (boxM false v2 h) fun v6 h7 =>
 bK (fAddr 0 v6) fun v8 =>
 bK (ldO 1 false h7 v8) fun v9 =>
 bK (neI v9 v4) fun v10 =>
 condK v10 (
 retC (NV.bool false) h7) (
 bK (eqI v4 (NV.int .i64 (.ofNat 127))) fun v11 =>
 joinC 5 (fun v12 v13 v14 v15 v16 h17 =>
 condK v16 (
 bK (fAddr 1 v14) fun v19 =>
 bK (ldO 1 false h17 v19) fun v20 =>
 bK (ltI v20 (NV.int .u64 (.ofNat 4294967296))) fun v21 =>
 jK (fun v22 h23 =>
 jK (fun v25 h26 =>
 jK (fun v28 h29 =>
 bK (pickO v21 v28 (NV.bool false)) fun v31 =>
 jK (fun v32 h33 =>
 jK (fun v35 h36 =>
 jK (fun v38 h39 =>
 bK (pickO v31 v38 (NV.bool false)) fun v41 =>
 retC v41 h39) fun J40 => gK v31 true (
 bK (notO v35) fun v42 =>
 J40 v42 h36) (J40 (NV.tuple []) h36)) fun J37 => gK v31 true (
 bK (ldO 1 false h33 v32) fun v43 =>
 J37 v43 h33) (J37 (NV.tuple []) h33)) fun J34 => gK v31 true (
 bK (fAddr 3 v14) fun v44 =>
 J34 v44 h29) (J34 (NV.tuple []) h29)) fun J30 => gK v21 true (
 bK (eqI v25 (NV.int .u64 (.ofNat 0))) fun v45 =>
 J30 v45 h26) (J30 (NV.tuple []) h26)) fun J27 => gK v21 true (
 bK (ldO 1 false h23 v22) fun v46 =>
 J27 v46 h23) (J27 (NV.tuple []) h23)) fun J24 => gK v21 true (
 bK (fAddr 2 v14) fun v47 =>
 J24 v47 h17) (J24 (NV.tuple []) h17)) (
 bK (eqI v15 (NV.int .i64 (.ofNat 126))) fun v48 =>
 joinC 5 (fun v49 v50 v51 v52 v53 h54 =>
 condK v53 (
 bK (fAddr 2 v51) fun v56 =>
 bK (ldO 1 false h54 v56) fun v57 =>
 bK (eqI v57 (NV.int .u64 (.ofNat 0))) fun v58 =>
 jK (fun v59 h60 =>
 jK (fun v62 h63 =>
 jK (fun v65 h66 =>
 bK (pickO v58 v65 (NV.bool false)) fun v68 =>
 retC v68 h66) fun J67 => gK v58 true (
 bK (notO v62) fun v69 =>
 J67 v69 h63) (J67 (NV.tuple []) h63)) fun J64 => gK v58 true (
 bK (ldO 1 false h60 v59) fun v70 =>
 J64 v70 h60) (J64 (NV.tuple []) h60)) fun J61 => gK v58 true (
 bK (fAddr 3 v51) fun v71 =>
 J61 v71 h54) (J61 (NV.tuple []) h54)) (
 bK (eqI v52 (NV.int .i64 (.ofNat 123))) fun v72 =>
 condK v72 (
 bK (fAddr 3 v51) fun v73 =>
 bK (ldO 1 false h54 v73) fun v74 =>
 bK (notO v74) fun v75 =>
 retC v75 h54) (
 bK (eqI v52 (NV.int .i64 (.ofNat 112))) fun v76 =>
 joinC 4 (fun v77 v78 v79 v80 h81 =>
 condK v80 (
 bK (fAddr 3 v79) fun v83 =>
 bK (ldO 1 false h81 v83) fun v84 =>
 condK v84 (
 bK (fAddr 1 v79) fun v85 =>
 bK (ldO 1 false h81 v85) fun v86 =>
 bK (eqI v86 (NV.int .u64 (.ofNat 0))) fun v87 =>
 jK (fun v88 h89 =>
 jK (fun v91 h92 =>
 jK (fun v94 h95 =>
 bK (pickO v87 v94 (NV.bool false)) fun v97 =>
 retC v97 h95) fun J96 => gK v87 true (
 bK (eqI v91 (NV.int .u64 (.ofNat 0))) fun v98 =>
 J96 v98 h92) (J96 (NV.tuple []) h92)) fun J93 => gK v87 true (
 bK (ldO 1 false h89 v88) fun v99 =>
 J93 v99 h89) (J93 (NV.tuple []) h89)) fun J90 => gK v87 true (
 bK (fAddr 2 v79) fun v100 =>
 J90 v100 h81) (J90 (NV.tuple []) h81)) (
 bK (fAddr 2 v79) fun v101 =>
 bK (ldO 1 false h81 (chkV h81 v101)) fun v102 =>
 bK (eqI v102 (NV.int .u64 (.ofNat 0))) fun v103 =>
 jK (fun v104 h105 =>
 jK (fun v107 h108 =>
 jK (fun v110 h111 =>
 jK (fun v113 h114 =>
 jK (fun v116 h117 =>
 jK (fun v119 h120 =>
 jK (fun v122 h123 =>
 jK (fun v125 h126 =>
 jK (fun v128 h129 =>
 jK (fun v131 h132 =>
 jK (fun v134 h135 =>
 jK (fun v137 h138 =>
 jK (fun v140 h141 =>
 bK (pickO v103 v140 (NV.bool false)) fun v143 =>
 retC v143 h81) fun J142 => gK v103 true (
 bK (pickO v110 (NV.bool true) v137) fun v144 =>
 J142 v144 h81) (J142 (NV.tuple []) h81)) fun J139 => gK v110 false (
 bK (ltI v116 v134) fun v145 =>
 J139 v145 h81) (J139 (NV.tuple []) h81)) fun J136 => gK v110 false (
 bK (cvI .u64 v131) fun v146 =>
 J136 v146 h81) (J136 (NV.tuple []) h81)) fun J133 => gK v110 false (
 bK (lenSl v128) fun v147 =>
 J133 v147 h81) (J133 (NV.tuple []) h81)) fun J130 => gK v110 false (
 bK (ldO 1 false h81 (chkV h81 v125)) fun v148 =>
 J130 v148 h81) (J130 (NV.tuple []) h81)) fun J127 => gK v110 false (
 bK (fAddr 0 v122) fun v149 =>
 J127 v149 h81) (J127 (NV.tuple []) h81)) fun J124 => gK v110 false (
 bK (nilO v119) fun v150 =>
 J124 v150 h81) (J124 (NV.tuple []) h81)) fun J121 => gK v110 false (
 J121 v77 h81) (J121 (NV.tuple []) h81)) fun J118 => gK v110 false (
 bK (ldO 1 false h81 (chkV h81 v113)) fun v151 =>
 J118 v151 h81) (J118 (NV.tuple []) h81)) fun J115 => gK v110 false (
 bK (fAddr 1 v79) fun v152 =>
 J115 v152 h81) (J115 (NV.tuple []) h81)) fun J112 => gK v103 true (
 J112 v107 h81) (J112 (NV.tuple []) h81)) fun J109 => gK v103 true (
 bK (eqI v104 (NV.int .i64 (.ofNat 111))) fun v153 =>
 J109 v153 h81) (J109 (NV.tuple []) h81)) fun J106 => gK v103 true (
 J106 v78 h81) (J106 (NV.tuple []) h81))) (
 retC (NV.bool false) h81)) fun J82 =>
 condK v76 (
 J82 v49 v50 v51 v76 h54) (
 bK (eqI v52 (NV.int .i64 (.ofNat 111))) fun v154 =>
 J82 v49 v50 v51 v154 h54)))) fun J55 =>
 condK v48 (
 J55 v12 v13 v14 v15 v48 h17) (
 bK (eqI v15 (NV.int .i64 (.ofNat 124))) fun v155 =>
 J55 v12 v13 v14 v15 v155 h17))) fun J18 =>
 condK v11 (
 J18 v0 v4 v6 v4 v11 h7) (
 bK (eqI v4 (NV.int .i64 (.ofNat 125))) fun v156 =>
 J18 v0 v4 v6 v4 v156 h7)))
theorem e10 : ikB Tryz.prog 9 Tryz.f10 = S10 := by kernel_rfl
theorem k10 [Sig] (w0 : World) : SOK cW w0 10 S10 := okW Tryz.func10 (by kernel_rfl) e10
noncomputable def S11 (call : CallF) (N : Nat) (l : List NV) (h : H) : R :=
 uc l fun v0 l1 => un l1 (
 bK (eqD Tryz.prog .eql 25 h v0 NV.nslice) fun v2 =>
 condK v2 (
 retC NV.nslice h) (
 mK (bslM 0 false [] [] [] h) fun v3 h4 =>
 mK (appM Tryz.prog 24 v3 v0 h4) fun v5 h6 =>
 retC v5 h6))
theorem e11 : ikB Tryz.prog 9 Tryz.f11 = S11 := by kernel_rfl
theorem k11 [Sig] (w0 : World) : SOK cW w0 11 S11 := okW Tryz.func11 (by kernel_rfl) e11
noncomputable def S12 (call : CallF) (N : Nat) (l : List NV) (h : H) : R :=
 uc l fun v0 l1 => uc l1 fun v2 l3 => un l3 (
 bK (nilO v0) fun v4 =>
 bK (fAddr 0 v4) fun v5 =>
 bK (ldO 1 false h v5) fun v6 =>
 bK (nilO v6) fun v7 =>
 bK (fAddr 0 v7) fun v8 =>
 bK (ldO 1 false h v8) fun v9 =>
 bK (ixS 5 v9 v2) fun v10 =>
 bK (ldO 5 true h v10) fun v11 =>
 mK (alM (NB.cells [NV.nslice, NV.nslice, (NV.int .i64 (.ofNat 0)), (NV.int .i64 (.ofNat 0)), (NV.int .i64 (.ofNat 0))]) h) fun v12 h13 =>
 mK (stM 5 v12 v11 h13) fun v14 h15 =>
 bK (nilO v0) fun v16 =>
 bK (fAddr 6 v16) fun v17 =>
 bK (ldO 1 false h15 (chkV h15 v17)) fun v18 =>
 bK (lenSl v18) fun v19 =>
 bK (fAddr 0 v12) fun v20 =>
 bK (fAddr 0 v20) fun v21 =>
 bK (ldO 1 false h15 (chkV h15 v21)) fun v22 =>
 bK (lenSl v22) fun v23 =>
 bK (subI v19 v23) fun v24 =>
 bK (nilO v0) fun v25 =>
 bK (fAddr 6 v25) fun v26 =>
 bK (ldO 1 false h15 v26) fun v27 =>
 bK (slcO Tryz.prog 25 h15 v27 (some v24) none none) fun v28 =>
 mK (calM call 11 [v28] h15) fun v29 h30 =>
 bK (nilO v0) fun v31 =>
 bK (fAddr 6 v31) fun v32 =>
 bK (ldO 1 false h30 v32) fun v33 =>
 bK (slcO Tryz.prog 25 h30 v33 none (some v24) none) fun v34 =>
 bK (nilO v0) fun v35 =>
 bK (fAddr 6 v35) fun v36 =>
 mK (stM 1 v36 v34 h30) fun v37 h38 =>
 bK (fAddr 4 v12) fun v39 =>
 bK (ldO 1 false h38 v39) fun v40 =>
 bK (gtI v40 (NV.int .i64 (.ofNat 0))) fun v41 =>
 condK v41 (
 bK (nilO v0) fun v42 =>
 bK (fAddr 0 v42) fun v43 =>
 bK (ldO 1 false h38 (chkV h38 v43)) fun v44 =>
 bK (nilO v0) fun v45 =>
 bK (fAddr 0 v45) fun v46 =>
 bK (ldO 1 false h38 (chkV h38 v46)) fun v47 =>
 bK (nilO v47) fun v48 =>
 bK (fAddr 7 v48) fun v49 =>
 bK (ldO 1 false h38 (chkV h38 v49)) fun v50 =>
 bK (fAddr 4 v12) fun v51 =>
 bK (ldO 1 false h38 (chkV h38 v51)) fun v52 =>
 bK (subI v52 (NV.int .i64 (.ofNat 1))) fun v53 =>
 bK (bldO [(0, 1), (1, 1)] [(NV.int .i64 (.ofNat 0)), NV.nslice] [v53, v29]) fun v54 =>
 mK (bslM 1 false [(0, 2)] [(NV.int .i64 (.ofNat 0)), NV.nslice] [(chkV h38 v54)] h38) fun v55 h56 =>
 mK (appM Tryz.prog 127 (chkV h56 v50) (chkV h56 v55) h56) fun v57 h58 =>
 nextK h56 h58 (
 bK (nilO v44) fun v59 =>
 bK (fAddr 7 v59) fun v60 =>
 bK (ldO 1 false h58 (chkV h58 v43)) fun v61 =>
 sameK v61 v44 (
 mK (stM 1 (chkV h58 v60) (chkV h58 v57) h58) fun v62 h63 =>
 nextK h58 h63 (
 bK (fAddr 0 v12) fun v64 =>
 bK (fAddr 1 v64) fun v65 =>
 bK (ldO 1 false h63 v65) fun v66 =>
 bK (lenSl v66) fun v67 =>
 joinC 0 (fun h68 =>
 retC (NV.int .i64 (.ofNat 0)) h68) fun J69 =>
 loopC N 4 (fun L75 v70 v71 v72 v73 h74 =>
 bK (ltI v73 v72) fun v76 =>
 condK v76 (
 bK (ixS 1 v71 v73) fun v77 =>
 bK (ldO 1 false h74 v77) fun v78 =>
 mK (calM call 14 [v78] h74) fun v79 h80 =>
 mK (bslM 1 false [(0, 4)] [(NV.int .i64 (.ofNat 0)), (NV.int .u64 (.ofNat 0)), (NV.int .u64 (.ofNat 0)), (NV.bool false)] [v79] h80) fun v81 h82 =>
 mK (calM call 15 [v70, v81] h82) fun v83 h84 =>
 bK (addI v73 (NV.int .i64 (.ofNat 1))) fun v85 =>
 L75 v70 v71 v72 v85 h84) (
 J69 h74)) v0 v66 v67 (NV.int .i64 (.ofNat 0)) h63)))) (
 bK (nilO v0) fun v86 =>
 bK (fAddr 5 v86) fun v87 =>
 bK (ldO 1 false h38 (chkV h38 v87)) fun v88 =>
 bK (lenSl v88) fun v89 =>
 bK (nilO v0) fun v90 =>
 bK (fAddr 1 v90) fun v91 =>
 bK (fAddr 1 v91) fun v92 =>
 bK (ldO 1 false h38 (chkV h38 v92)) fun v93 =>
 bK (geI v89 v93) fun v94 =>
 condK v94 (
 retC (NV.int .i64 (.ofNat 50)) h38) (
 bK (fAddr 2 v12) fun v95 =>
 bK (ldO 1 false h38 v95) fun v96 =>
 bK (fAddr 3 v12) fun v97 =>
 bK (ldO 1 false h38 v97) fun v98 =>
 bK (bldO [(0, 1), (1, 1)] [(NV.int .i64 (.ofNat 0)), (NV.int .i64 (.ofNat 0))] [v96, v98]) fun v99 =>
 mK (alM (NB.cells [(NV.int .i64 (.ofNat 0)), (NV.int .i64 (.ofNat 0))]) h38) fun v100 h101 =>
 mK (stM 2 v100 v99 h101) fun v102 h103 =>
 bK (nilO v0) fun v104 =>
 bK (fAddr 7 v104) fun v105 =>
 bK (ldO 1 false h103 (chkV h103 v105)) fun v106 =>
 bK (ldO 2 true h103 (chkV h103 v100)) fun v107 =>
 bK (lookO Tryz.prog 130 (NV.agg [NV.nslice, NV.nslice, NV.nslice, NV.nslice]) true h103 (chkV h103 v106) (chkV h103 v107)) fun v108 =>
 bK (extO 0 v108) fun v109 =>
 bK (extO 1 v108) fun v110 =>
 mK (alM (NB.cells [NV.nslice, NV.nslice, NV.nslice, NV.nslice]) h103) fun v111 h112 =>
 mK (stM 4 (chkV h112 v111) (chkV h112 v109) h112) fun v113 h114 =>
 nextK h112 h114 (
 bK (nilO v0) fun v115 =>
 bK (fAddr 0 v115) fun v116 =>
 bK (ldO 1 false h114 (chkV h114 v116)) fun v117 =>
 bK (nilO v117) fun v118 =>
 bK (fAddr 6 v118) fun v119 =>
 bK (ldO 1 false h114 (chkV h114 v119)) fun v120 =>
 bK (fAddr 2 v12) fun v121 =>
 bK (ldO 1 false h114 (chkV h114 v121)) fun v122 =>
 bK (ixS 1 v120 v122) fun v123 =>
 bK (ldO 1 false h114 (chkV h114 v123)) fun v124 =>
 bK (notO v110) fun v125 =>
 joinC 5 (fun v126 v127 v128 v129 v130 h131 =>
 bK (fAddr 2 v129) fun v133 =>
 bK (ldO 1 false h131 v133) fun v134 =>
 bK (lenSl v134) fun v135 =>
 joinC 5 (fun v136 v137 v138 v139 v140 h141 =>
 bK (nilO v136) fun v143 =>
 bK (fAddr 5 v143) fun v144 =>
 bK (ldO 1 false h141 (chkV h141 v144)) fun v145 =>
 bK (ldO 4 true h141 (chkV h141 v139)) fun v146 =>
 bK (bldO [(0, 4), (4, 1), (5, 1), (6, 1), (7, 1)] [NV.nslice, NV.nslice, NV.nslice, NV.nslice, NV.nilptr, (NV.int .i64 (.ofNat 0)), NV.nslice, (NV.int .i64 (.ofNat 0))] [v146, v140, (NV.int .i64 (.ofNat 0)), v138, v137]) fun v147 =>
 mK (bslM 1 false [(0, 8)] [NV.nslice, NV.nslice, NV.nslice, NV.nslice, NV.nilptr, (NV.int .i64 (.ofNat 0)), NV.nslice, (NV.int .i64 (.ofNat 0))] [(chkV h141 v147)] h141) fun v148 h149 =>
 mK (appM Tryz.prog 138 (chkV h149 v145) (chkV h149 v148) h149) fun v150 h151 =>
 nextK h149 h151 (
 bK (nilO v136) fun v152 =>
 bK (fAddr 5 v152) fun v153 =>
 mK (stM 1 (chkV h151 v153) (chkV h151 v150) h151) fun v154 h155 =>
 nextK h151 h155 (
 retC (NV.int .i64 (.ofNat 0)) h155))) fun J142 =>
 loopC N 8 (fun L165 v156 v157 v158 v159 v160 v161 v162 v163 h164 =>
 bK (ltI v163 v162) fun v166 =>
 condK v166 (
 bK (ixS 1 v161 v163) fun v167 =>
 bK (ldO 1 false h164 v167) fun v168 =>
 mK (calM call 14 [v168] h164) fun v169 h170 =>
 mK (bslM 1 false [(0, 4)] [(NV.int .i64 (.ofNat 0)), (NV.int .u64 (.ofNat 0)), (NV.int .u64 (.ofNat 0)), (NV.bool false)] [v169] h170) fun v171 h172 =>
 mK (appM Tryz.prog 24 v158 v171 h172) fun v173 h174 =>
 bK (addI v163 (NV.int .i64 (.ofNat 1))) fun v175 =>
 L165 v156 v157 v173 v159 v160 v161 v162 v175 h174) (
 J142 v156 v157 v158 v159 v160 h164)) v126 v127 v128 v129 v130 v134 v135 (NV.int .i64 (.ofNat 0)) h131) fun J132 =>
 condK v125 (
 bK (nilO v124) fun v176 =>
 bK (fAddr 0 v176) fun v177 =>
 bK (ldO 11 true h114 (chkV h114 v177)) fun v178 =>
 bK (fAddr 3 v12) fun v179 =>
 bK (ldO 1 false h114 (chkV h114 v179)) fun v180 =>
 mK (calM call 16 [(chkV h114 v178), (chkV h114 v180)] h114) fun v181 h182 =>
 nextK h114 h182 (
 bK (extO 0 v181) fun v183 =>
 bK (extO 1 v181) fun v184 =>
 mK (stM 4 (chkV h182 v111) (chkV h182 v183) h182) fun v185 h186 =>
 nextK h182 h186 (
 bK (nilO v0) fun v187 =>
 bK (fAddr 7 v187) fun v188 =>
 bK (ldO 1 false h186 (chkV h186 v188)) fun v189 =>
 bK (ldO 2 true h186 (chkV h186 v100)) fun v190 =>
 bK (ldO 4 true h186 (chkV h186 v111)) fun v191 =>
 mK (updM Tryz.prog 119 (chkV h186 v189) (chkV h186 v190) (chkV h186 v191) h186) fun v192 h193 =>
 nextK h186 h193 (
 J132 v0 v24 v29 v111 v124 h193)))) (
 J132 v0 v24 v29 v111 v124 h114)))))
theorem e12 : ikB Tryz.prog 9 Tryz.f12 = S12 := by kernel_rfl
theorem k12 [Sig] (w0 : World) : SOK cW w0 12 S12 := okW Tryz.func12 (by kernel_rfl) e12
noncomputable def S13 (call : CallF) (N : Nat) (l : List NV) (h : H) : R :=
 uc l fun v0 l1 => un l1 (
 mK (calM call 17 [v0] h) fun v2 h3 =>
 bK (nilO v2) fun v4 =>
 bK (fAddr 0 v4) fun v5 =>
 bK (fAddr 3 v5) fun v6 =>
 bK (ldO 1 false h3 (chkV h3 v6)) fun v7 =>
 bK (nilO v2) fun v8 =>
 bK (fAddr 5 v8) fun v9 =>
 bK (ldO 1 false h3 (chkV h3 v9)) fun v10 =>
 bK (ixS 11 v7 v10) fun v11 =>
 bK (ldO 11 true h3 (chkV h3 v11)) fun v12 =>
 mK (alM (NB.cells [(NV.int .i64 (.ofNat 0)), (NV.int .i64 (.ofNat 0)), (NV.int .i64 (.ofNat 0)), (NV.int .u64 (.ofNat 0)), (NV.int .u64 (.ofNat 0)), NV.nslice, (NV.int .i64 (.ofNat 0)), (NV.int .i64 (.ofNat 0)), (NV.int .i64 (.ofNat 0)), NV.nslice, (NV.bool false)]) h3) fun v13 h14 =>
 mK (stM 11 (chkV h14 v13) (chkV h14 v12) h14) fun v15 h16 =>
 nextK h14 h16 (
 bK (fAddr 10 v13) fun v17 =>
 bK (ldO 1 false h16 v17) fun v18 =>
 bK (notO v18) fun v19 =>
 joinC 3 (fun v20 v21 v22 h23 =>
 bK (nilO v21) fun v25 =>
 bK (fAddr 5 v25) fun v26 =>
 bK (ldO 1 false h23 v26) fun v27 =>
 bK (addI v27 (NV.int .i64 (.ofNat 1))) fun v28 =>
 bK (nilO v21) fun v29 =>
 bK (fAddr 5 v29) fun v30 =>
 mK (stM 1 v30 v28 h23) fun v31 h32 =>
 bK (fAddr 0 v22) fun v33 =>
 bK (ldO 1 false h32 v33) fun v34 =>
 bK (eqI v34 (NV.int .i64 (.ofNat 65536))) fun v35 =>
 joinC 0 (fun h36 =>
 retC (NV.int .i64 (.ofNat 0)) h36) fun J37 =>
 condK v35 (
 bK (fAddr 6 v22) fun v38 =>
 bK (ldO 3 true h32 v38) fun v39 =>
 mK (calM call 18 [v20, v39] h32) fun v40 h41 =>
 J37 h41) (
 bK (eqI v34 (NV.int .i64 (.ofNat 65537))) fun v42 =>
 joinC 5 (fun v43 v44 v45 v46 v47 h48 =>
 condK v47 (
 bK (fAddr 0 v45) fun v50 =>
 bK (ldO 1 false h48 (chkV h48 v50)) fun v51 =>
 bK (eqI v51 (NV.int .i64 (.ofNat 65537))) fun v52 =>
 mK (calM call 19 [(chkV h48 v43)] h48) fun v53 h54 =>
 nextK h48 h54 (
 bK (neI v53 (NV.int .u64 (.ofNat 0))) fun v55 =>
 bK (eqD Tryz.prog .eql 4 h54 (chkV h54 v55) (chkV h54 v52)) fun v56 =>
 bK (ldO 1 false h54 (chkV h54 v50)) fun v57 =>
 sameK v57 v51 (
 condK v56 (
 bK (fAddr 6 v45) fun v58 =>
 bK (ldO 3 true h54 v58) fun v59 =>
 mK (calM call 18 [v43, v59] h54) fun v60 h61 =>
 J37 h61) (
 J37 h54)))) (
 bK (eqI v46 (NV.int .i64 (.ofNat 65539))) fun v62 =>
 condK v62 (
 mK (calM call 19 [v43] h48) fun v63 h64 =>
 bK (fAddr 9 v45) fun v65 =>
 bK (ldO 1 false h64 v65) fun v66 =>
 bK (fAddr 9 v45) fun v67 =>
 bK (ldO 1 false h64 v67) fun v68 =>
 bK (lenSl v68) fun v69 =>
 bK (subI v69 (NV.int .i64 (.ofNat 1))) fun v70 =>
 bK (cvI .u64 v70) fun v71 =>
 bK (foldMM false v63 [v71]) fun v72 =>
 bK (ixS 3 v66 v72) fun v73 =>
 bK (ldO 3 true h64 v73) fun v74 =>
 mK (calM call 18 [v43, v74] h64) fun v75 h76 =>
 J37 h76) (
 bK (eqI v46 (NV.int .i64 (.ofNat 65540))) fun v77 =>
 condK v77 (
 bK (fAddr 6 v45) fun v78 =>
 bK (fAddr 1 v78) fun v79 =>
 bK (ldO 1 false h48 v79) fun v80 =>
 mK (calM call 20 [v43, v80] h48) fun v81 h82 =>
 J37 h82) (
 bK (eqI v46 (NV.int .i64 (.ofNat 0))) fun v83 =>
 condK v83 (
 retC (NV.int .i64 (.ofNat 40)) h48) (
 bK (eqI v46 (NV.int .i64 (.ofNat 1))) fun v84 =>
 condK v84 (
 J37 h48) (
 bK (eqI v46 (NV.int .i64 (.ofNat 16))) fun v85 =>
 condK v85 (
 bK (nilO v44) fun v86 =>
 bK (fAddr 4 v86) fun v87 =>
 bK (ldO 1 false h48 (chkV h48 v87)) fun v88 =>
 bK (nilO v88) fun v89 =>
 bK (fAddr 11 v89) fun v90 =>
 bK (ldO 1 false h48 (chkV h48 v90)) fun v91 =>
 bK (fAddr 1 v45) fun v92 =>
 bK (ldO 1 false h48 (chkV h48 v92)) fun v93 =>
 bK (ixS 1 v91 v93) fun v94 =>
 bK (ldO 1 false h48 (chkV h48 v94)) fun v95 =>
 mK (calM call 12 [(chkV h48 v43), (chkV h48 v95)] h48) fun v96 h97 =>
 nextK h48 h97 (
 retC v96 h97)) (
 bK (eqI v46 (NV.int .i64 (.ofNat 17))) fun v98 =>
 condK v98 (
 bK (ldO 11 true h48 v45) fun v99 =>
 mK (calM call 21 [v43, v44, v99] h48) fun v100 h101 =>
 retC v100 h101) (
 bK (ldO 11 true h48 v45) fun v102 =>
 mK (calM call 22 [v43, v44, v102] h48) fun v103 h104 =>
 retC v103 h104)))))))) fun J49 =>
 condK v42 (
 J49 v20 v21 v22 v34 v42 h32) (
 bK (eqI v34 (NV.int .i64 (.ofNat 65538))) fun v105 =>
 J49 v20 v21 v22 v34 v105 h32))) fun J24 =>
 condK v19 (
 bK (nilO v0) fun v106 =>
 bK (fAddr 4 v106) fun v107 =>
 bK (ldO 1 false h16 (chkV h16 v107)) fun v108 =>
 bK (nilO v0) fun v109 =>
 bK (fAddr 1 v109) fun v110 =>
 bK (fAddr 0 v110) fun v111 =>
 bK (ldO 1 false h16 (chkV h16 v111)) fun v112 =>
 bK (geI v108 v112) fun v113 =>
 condK v113 (
 retC (NV.int .i64 (.ofNat 51)) h16) (
 bK (nilO v0) fun v114 =>
 bK (fAddr 4 v114) fun v115 =>
 bK (ldO 1 false h16 v115) fun v116 =>
 bK (addI v116 (NV.int .i64 (.ofNat 1))) fun v117 =>
 bK (nilO v0) fun v118 =>
 bK (fAddr 4 v118) fun v119 =>
 mK (stM 1 v119 v117 h16) fun v120 h121 =>
 J24 v0 v2 v13 h121)) (
 J24 v0 v2 v13 h16)))
theorem e13 : ikB Tryz.prog 9 Tryz.f13 = S13 := by kernel_rfl
theorem k13 [Sig] (w0 : World) : SOK cW w0 13 S13 := okW Tryz.func13 (by kernel_rfl) e13
noncomputable def S14 (call : CallF) (N : Nat) (l : List NV) (h : H) : R :=
 uc l fun v0 l1 => un l1 (
 mK (alM (NB.cells [(NV.int .i64 (.ofNat 0)), (NV.int .u64 (.ofNat 0)), (NV.int .u64 (.ofNat 0)), (NV.bool false)]) h) fun v2 h3 =>
 bK (eqI v0 (NV.int .i64 (.ofNat 112))) fun v4 =>
 jK (fun v5 h6 =>
 jK (fun v8 h9 =>
 bK (pickO v4 (NV.bool true) v8) fun v11 =>
 bK (bldO [(0, 1), (3, 1)] [(NV.int .i64 (.ofNat 0)), (NV.int .u64 (.ofNat 0)), (NV.int .u64 (.ofNat 0)), (NV.bool false)] [v0, v11]) fun v12 =>
 mK (stM 4 v2 v12 h9) fun v13 h14 =>
 bK (ldB 4 true h14 v2) fun v15 =>
 retC v15 h14) fun J10 => gK v4 false (
 bK (eqI v5 (NV.int .i64 (.ofNat 111))) fun v16 =>
 J10 v16 h6) (J10 (NV.tuple []) h6)) fun J7 => gK v4 false (
 J7 v0 h3) (J7 (NV.tuple []) h3))
theorem e14 : ikB Tryz.prog 9 Tryz.f14 = S14 := by kernel_rfl
theorem k14 [Sig] (w0 : World) : SOK cW w0 14 S14 := okW Tryz.func14 (by kernel_rfl) e14
noncomputable def S15 (call : CallF) (N : Nat) (l : List NV) (h : H) : R :=
 uc l fun v0 l1 => uc l1 fun v2 l3 => un l3 (
 bK (nilO v0) fun v4 =>
 bK (fAddr 6 v4) fun v5 =>
 bK (ldO 1 false h v5) fun v6 =>
 mK (appM Tryz.prog 24 v6 v2 h) fun v7 h8 =>
 bK (nilO v0) fun v9 =>
 bK (fAddr 6 v9) fun v10 =>
 mK (stM 1 v10 v7 h8) fun v11 h12 =>
 retC (NV.tuple []) h12)
theorem e15 : ikB Tryz.prog 9 Tryz.f15 = S15 := by kernel_rfl
theorem k15 [Sig] (w0 : World) : SOK cW w0 15 S15 := okW Tryz.func15 (by kernel_rfl) e15
noncomputable def S16 (call : CallF) (N : Nat) (l : List NV) (h : H) : R :=
 uc l fun v0 l1 => uc l1 fun v2 l3 => un l3 (
 mK (boxM false v0 h) fun v4 h5 =>
 mK (alM (NB.cells [NV.nslice, NV.nslice, NV.nslice, NV.nslice]) h5) fun v6 h7 =>
 bK (ldO 11 true h7 v4) fun v8 =>
 mK (calM call 23 [v8] h7) fun v9 h10 =>
 bK (neI v9 (NV.int .i64 (.ofNat 0))) fun v11 =>
 condK v11 (
 bK (bldO [] [NV.nslice, NV.nslice, NV.nslice, NV.nslice] []) fun v12 =>
 mK (stM 4 v6 v12 h10) fun v13 h14 =>
 bK (ldB 4 true h14 v6) fun v15 =>
 retC (NV.tuple [v15, v9]) h14) (
 bK (ltI v2 (NV.int .i64 (.ofNat 0))) fun v16 =>
 jK (fun v17 h18 =>
 jK (fun v20 h21 =>
 jK (fun v23 h24 =>
 jK (fun v26 h27 =>
 jK (fun v29 h30 =>
 bK (pickO v16 (NV.bool true) v29) fun v32 =>
 condK v32 (
 bK (bldO [] [NV.nslice, NV.nslice, NV.nslice, NV.nslice] []) fun v33 =>
 mK (stM 4 v6 v33 h30) fun v34 h35 =>
 bK (ldB 4 true h35 v6) fun v36 =>
 retC (NV.tuple [v36, (NV.int .i64 (.ofNat 1))]) h35) (
 bK (ldO 11 true h30 v4) fun v37 =>
 mK (calM call 24 [v37, v2] h30) fun v38 h39 =>
 mK (stM 4 v6 v38 h39) fun v40 h41 =>
 bK (ldB 4 true h41 v6) fun v42 =>
 retC (NV.tuple [v42, (NV.int .i64 (.ofNat 0))]) h41)) fun J31 => gK v16 false (
 bK (geI v17 v26) fun v43 =>
 J31 v43 h27) (J31 (NV.tuple []) h27)) fun J28 => gK v16 false (
 bK (lenSl v23) fun v44 =>
 J28 v44 h24) (J28 (NV.tuple []) h24)) fun J25 => gK v16 false (
 bK (ldO 1 false h21 v20) fun v45 =>
 J25 v45 h21) (J25 (NV.tuple []) h21)) fun J22 => gK v16 false (
 bK (fAddr 2 v4) fun v46 =>
 J22 v46 h18) (J22 (NV.tuple []) h18)) fun J19 => gK v16 false (
 J19 v2 h10) (J19 (NV.tuple []) h10)))
theorem e16 : ikB Tryz.prog 9 Tryz.f16 = S16 := by kernel_rfl
theorem k16 [Sig] (w0 : World) : SOK cW w0 16 S16 := okW Tryz.func16 (by kernel_rfl) e16
noncomputable def S17 (call : CallF) (N : Nat) (l : List NV) (h : H) : R :=
 uc l fun v0 l1 => un l1 (
 bK (nilO v0) fun v2 =>
 bK (fAddr 5 v2) fun v3 =>
 bK (ldO 1 false h (chkV h v3)) fun v4 =>
 bK (nilO v0) fun v5 =>
 bK (fAddr 5 v5) fun v6 =>
 bK (ldO 1 false h (chkV h v6)) fun v7 =>
 bK (lenSl v7) fun v8 =>
 bK (subI v8 (NV.int .i64 (.ofNat 1))) fun v9 =>
 bK (ixS 8 v4 v9) fun v10 =>
 retC v10 h)
theorem e17 : ikB Tryz.prog 9 Tryz.f17 = S17 := by kernel_rfl
theorem k17 [Sig] (w0 : World) : SOK cW w0 17 S17 := okW Tryz.func17 (by kernel_rfl) e17
noncomputable def S18 (call : CallF) (N : Nat) (l : List NV) (h : H) : R :=
 uc l fun v0 l1 => uc l1 fun v2 l3 => un l3 (
 mK (boxM false v2 h) fun v4 h5 =>
 bK (nilO v0) fun v6 =>
 bK (fAddr 6 v6) fun v7 =>
 bK (ldO 1 false h5 v7) fun v8 =>
 bK (lenSl v8) fun v9 =>
 bK (nilO v0) fun v10 =>
 bK (fAddr 6 v10) fun v11 =>
 bK (ldO 1 false h5 (chkV h5 v11)) fun v12 =>
 bK (fAddr 1 v4) fun v13 =>
 bK (ldO 1 false h5 (chkV h5 v13)) fun v14 =>
 bK (subI v9 v14) fun v15 =>
 bK (fAddr 2 v4) fun v16 =>
 bK (ldO 1 false h5 (chkV h5 v16)) fun v17 =>
 bK (subI v15 v17) fun v18 =>
 bK (fAddr 1 v4) fun v19 =>
 bK (ldO 1 false h5 (chkV h5 v19)) fun v20 =>
 bK (subI v9 v20) fun v21 =>
 mK (calM call 25 [(chkV h5 v12), (chkV h5 v18), (chkV h5 v21)] h5) fun v22 h23 =>
 nextK h5 h23 (
 bK (nilO v0) fun v24 =>
 bK (fAddr 6 v24) fun v25 =>
 mK (stM 1 (chkV h23 v25) (chkV h23 v22) h23) fun v26 h27 =>
 nextK h23 h27 (
 bK (fAddr 0 v4) fun v28 =>
 bK (ldO 1 false h27 (chkV h27 v28)) fun v29 =>
 mK (calM call 17 [(chkV h27 v0)] h27) fun v30 h31 =>
 nextK h27 h31 (
 bK (nilO v30) fun v32 =>
 bK (fAddr 5 v32) fun v33 =>
 bK (ldO 1 false h31 (chkV h31 v28)) fun v34 =>
 sameK v34 v29 (
 mK (stM 1 (chkV h31 v33) (chkV h31 v29) h31) fun v35 h36 =>
 nextK h31 h36 (
 retC (NV.tuple []) h36))))))
theorem e18 : ikB Tryz.prog 9 Tryz.f18 = S18 := by kernel_rfl
theorem k18 [Sig] (w0 : World) : SOK cW w0 18 S18 := okW Tryz.func18 (by kernel_rfl) e18
noncomputable def S20 (call : CallF) (N : Nat) (l : List NV) (h : H) : R :=
 uc l fun v0 l1 => uc l1 fun v2 l3 => un l3 (
 bK (nilO v0) fun v4 =>
 bK (fAddr 6 v4) fun v5 =>
 bK (ldO 1 false h (chkV h v5)) fun v6 =>
 bK (nilO v0) fun v7 =>
 bK (fAddr 6 v7) fun v8 =>
 bK (ldO 1 false h (chkV h v8)) fun v9 =>
 bK (lenSl v9) fun v10 =>
 bK (subI v10 v2) fun v11 =>
 mK (calM call 17 [(chkV h v0)] h) fun v12 h13 =>
 nextK h h13 (
 bK (nilO v12) fun v14 =>
 bK (fAddr 7 v14) fun v15 =>
 bK (ldO 1 false h13 (chkV h13 v15)) fun v16 =>
 bK (ldO 1 false h13 (chkV h13 v5)) fun v17 =>
 sameK v17 v6 (
 bK (ldO 1 false h13 (chkV h13 v8)) fun v18 =>
 sameK v18 v9 (
 mK (calM call 25 [(chkV h13 v6), (chkV h13 v16), (chkV h13 v11)] h13) fun v19 h20 =>
 nextK h13 h20 (
 bK (nilO v0) fun v21 =>
 bK (fAddr 6 v21) fun v22 =>
 mK (stM 1 (chkV h20 v22) (chkV h20 v19) h20) fun v23 h24 =>
 nextK h20 h24 (
 bK (nilO v0) fun v25 =>
 bK (fAddr 5 v25) fun v26 =>
 bK (ldO 1 false h24 (chkV h24 v26)) fun v27 =>
 bK (nilO v0) fun v28 =>
 bK (fAddr 5 v28) fun v29 =>
 bK (ldO 1 false h24 (chkV h24 v29)) fun v30 =>
 bK (lenSl v30) fun v31 =>
 bK (subI v31 (NV.int .i64 (.ofNat 1))) fun v32 =>
 bK (slcO Tryz.prog 120 h24 (chkV h24 v27) none (some (chkV h24 v32)) none) fun v33 =>
 bK (nilO v0) fun v34 =>
 bK (fAddr 5 v34) fun v35 =>
 mK (stM 1 (chkV h24 v35) (chkV h24 v33) h24) fun v36 h37 =>
 nextK h24 h37 (
 retC (NV.tuple []) h37)))))))
theorem e20 : ikB Tryz.prog 9 Tryz.f20 = S20 := by kernel_rfl
theorem k20 [Sig] (w0 : World) : SOK cW w0 20 S20 := okW Tryz.func20 (by kernel_rfl) e20
noncomputable def S22 (call : CallF) (N : Nat) (l : List NV) (h : H) : R :=
 uc l fun v0 l1 => uc l1 fun v2 l3 => uc l3 fun v4 l5 => un l5 (
 mK (boxM false v4 h) fun v6 h7 =>
 bK (fAddr 0 v6) fun v8 =>
 bK (ldO 1 false h7 v8) fun v9 =>
 bK (geI v9 (NV.int .i64 (.ofNat 65))) fun v10 =>
 jK (fun v11 h12 =>
 jK (fun v14 h15 =>
 bK (pickO v10 v14 (NV.bool false)) fun v17 =>
 jK (fun v18 h19 =>
 jK (fun v21 h22 =>
 bK (pickO v17 (NV.bool true) v21) fun v24 =>
 joinC 0 (fun h25 =>
 retC (NV.int .i64 (.ofNat 0)) h25) fun J26 =>
 condK v24 (
 mK (calM call 28 [v9] h22) fun v27 h28 =>
 bK (extO 0 v27) fun v29 =>
 bK (extO 1 v27) fun v30 =>
 bK (extO 2 v27) fun v31 =>
 bK (ixS 1 v30 (NV.int .i64 (.ofNat 0))) fun v32 =>
 bK (ldO 1 false h28 (chkV h28 v32)) fun v33 =>
 bK (fAddr 3 v6) fun v34 =>
 bK (ldO 1 false h28 (chkV h28 v34)) fun v35 =>
 bK (fAddr 4 v6) fun v36 =>
 bK (ldO 1 false h28 (chkV h28 v36)) fun v37 =>
 bK (bldO [(0, 1), (1, 1), (2, 1)] [(NV.int .i64 (.ofNat 0)), (NV.int .u64 (.ofNat 0)), (NV.int .u64 (.ofNat 0)), (NV.bool false)] [v33, v35, v37]) fun v38 =>
 mK (bslM 1 false [(0, 4)] [(NV.int .i64 (.ofNat 0)), (NV.int .u64 (.ofNat 0)), (NV.int .u64 (.ofNat 0)), (NV.bool false)] [(chkV h28 v38)] h28) fun v39 h40 =>
 mK (calM call 15 [(chkV h40 v0), (chkV h40 v39)] h40) fun v41 h42 =>
 nextK h40 h42 (
 J26 h42)) (
 mK (calM call 29 [v9] h22) fun v43 h44 =>
 condK v43 (
 bK (ldO 11 true h44 v6) fun v45 =>
 mK (calM call 30 [v0, v45] h44) fun v46 h47 =>
 retC v46 h47) (
 bK (geI v9 (NV.int .i64 (.ofNat 40))) fun v48 =>
 jK (fun v49 h50 =>
 jK (fun v52 h53 =>
 bK (pickO v48 v52 (NV.bool false)) fun v55 =>
 jK (fun v56 h57 =>
 jK (fun v59 h60 =>
 bK (pickO v55 (NV.bool true) v59) fun v62 =>
 condK v62 (
 bK (ldO 11 true h60 v6) fun v63 =>
 mK (calM call 31 [v0, v2, v63] h60) fun v64 h65 =>
 retC v64 h65) (
 bK (geI v9 (NV.int .i64 (.ofNat 32))) fun v66 =>
 jK (fun v67 h68 =>
 jK (fun v70 h71 =>
 bK (pickO v66 v70 (NV.bool false)) fun v73 =>
 condK v73 (
 bK (ldO 11 true h71 v6) fun v74 =>
 mK (calM call 32 [v0, v2, v74] h71) fun v75 h76 =>
 J26 h76) (
 bK (eqI v9 (NV.int .i64 (.ofNat 208))) fun v77 =>
 condK v77 (
 bK (fAddr 1 v6) fun v78 =>
 bK (ldO 1 false h71 v78) fun v79 =>
 bK (bldO [(0, 1), (3, 1)] [(NV.int .i64 (.ofNat 0)), (NV.int .u64 (.ofNat 0)), (NV.int .u64 (.ofNat 0)), (NV.bool false)] [v79, (NV.bool true)]) fun v80 =>
 mK (bslM 1 false [(0, 4)] [(NV.int .i64 (.ofNat 0)), (NV.int .u64 (.ofNat 0)), (NV.int .u64 (.ofNat 0)), (NV.bool false)] [v80] h71) fun v81 h82 =>
 mK (calM call 15 [v0, v81] h82) fun v83 h84 =>
 J26 h84) (
 bK (eqI v9 (NV.int .i64 (.ofNat 209))) fun v85 =>
 condK v85 (
 mK (calM call 26 [v0] h71) fun v86 h87 =>
 bK (fldO false 1 3 v86) fun v88 =>
 joinC 2 (fun v89 v90 h91 =>
 mK (calM call 33 [v89, v90] h91) fun v93 h94 =>
 J26 h94) fun J92 =>
 condK v88 (
 J92 v0 (NV.int .i64 (.ofNat 1)) h87) (
 J92 v0 (NV.int .i64 (.ofNat 0)) h87)) (
 bK (eqI v9 (NV.int .i64 (.ofNat 210))) fun v95 =>
 condK v95 (
 bK (nilO v2) fun v96 =>
 bK (fAddr 4 v96) fun v97 =>
 bK (ldO 1 false h71 (chkV h71 v97)) fun v98 =>
 bK (nilO v98) fun v99 =>
 bK (fAddr 11 v99) fun v100 =>
 bK (ldO 1 false h71 (chkV h71 v100)) fun v101 =>
 bK (fAddr 1 v6) fun v102 =>
 bK (ldO 1 false h71 (chkV h71 v102)) fun v103 =>
 bK (ixS 1 v101 v103) fun v104 =>
 bK (ldO 1 false h71 (chkV h71 v104)) fun v105 =>
 bK (cvI .u64 v105) fun v106 =>
 bK (bldO [(0, 1), (1, 1)] [(NV.int .i64 (.ofNat 0)), (NV.int .u64 (.ofNat 0)), (NV.int .u64 (.ofNat 0)), (NV.bool false)] [(NV.int .i64 (.ofNat 112)), v106]) fun v107 =>
 mK (bslM 1 false [(0, 4)] [(NV.int .i64 (.ofNat 0)), (NV.int .u64 (.ofNat 0)), (NV.int .u64 (.ofNat 0)), (NV.bool false)] [(chkV h71 v107)] h71) fun v108 h109 =>
 mK (calM call 15 [(chkV h109 v0), (chkV h109 v108)] h109) fun v110 h111 =>
 nextK h109 h111 (
 J26 h111)) (
 bK (eqI v9 (NV.int .i64 (.ofNat 26))) fun v112 =>
 condK v112 (
 mK (calM call 26 [v0] h71) fun v113 h114 =>
 J26 h114) (
 bK (eqI v9 (NV.int .i64 (.ofNat 27))) fun v115 =>
 jK (fun v116 h117 =>
 jK (fun v119 h120 =>
 bK (pickO v115 (NV.bool true) v119) fun v122 =>
 condK v122 (
 mK (calM call 19 [v0] h120) fun v123 h124 =>
 mK (calM call 26 [v0] h124) fun v125 h126 =>
 mK (alM (NB.cells [(NV.int .i64 (.ofNat 0)), (NV.int .u64 (.ofNat 0)), (NV.int .u64 (.ofNat 0)), (NV.bool false)]) h126) fun v127 h128 =>
 mK (stM 4 v127 v125 h128) fun v129 h130 =>
 bK (eqI v123 (NV.int .u64 (.ofNat 0))) fun v131 =>
 condK v131 (
 mK (calM call 26 [v0] h130) fun v132 h133 =>
 bK (ldO 4 true h133 v127) fun v134 =>
 mK (bslM 1 false [(0, 4)] [(NV.int .i64 (.ofNat 0)), (NV.int .u64 (.ofNat 0)), (NV.int .u64 (.ofNat 0)), (NV.bool false)] [v134] h133) fun v135 h136 =>
 mK (calM call 15 [v0, v135] h136) fun v137 h138 =>
 J26 h138) (
 J26 h130)) (
 bK (eqI v9 (NV.int .i64 (.ofNat 37))) fun v139 =>
 jK (fun v140 h141 =>
 jK (fun v143 h144 =>
 bK (pickO v139 (NV.bool true) v143) fun v146 =>
 jK (fun v147 h148 =>
 jK (fun v150 h151 =>
 bK (pickO v146 (NV.bool true) v150) fun v153 =>
 condK v153 (
 bK (ldO 11 true h151 v6) fun v154 =>
 mK (calM call 34 [v0, v2, v154] h151) fun v155 h156 =>
 retC v155 h156) (
 bK (ldO 11 true h151 v6) fun v157 =>
 mK (calM call 35 [v0, v2, v157] h151) fun v158 h159 =>
 retC v158 h159)) fun J152 => gK v146 false (
 bK (geI v147 (NV.int .i64 (.ofNat 64524))) fun v160 =>
 J152 v160 h148) (J152 (NV.tuple []) h148)) fun J149 => gK v146 false (
 J149 v9 h144) (J149 (NV.tuple []) h144)) fun J145 => gK v139 false (
 bK (eqI v140 (NV.int .i64 (.ofNat 38))) fun v161 =>
 J145 v161 h141) (J145 (NV.tuple []) h141)) fun J142 => gK v139 false (
 J142 v9 h120) (J142 (NV.tuple []) h120))) fun J121 => gK v115 false (
 bK (eqI v116 (NV.int .i64 (.ofNat 28))) fun v162 =>
 J121 v162 h117) (J121 (NV.tuple []) h117)) fun J118 => gK v115 false (
 J118 v9 h71) (J118 (NV.tuple []) h71))))))) fun J72 => gK v66 true (
 bK (leI v67 (NV.int .i64 (.ofNat 36))) fun v163 =>
 J72 v163 h68) (J72 (NV.tuple []) h68)) fun J69 => gK v66 true (
 J69 v9 h60) (J69 (NV.tuple []) h60))) fun J61 => gK v55 false (
 bK (geI v56 (NV.int .i64 (.ofNat 64768))) fun v164 =>
 J61 v164 h57) (J61 (NV.tuple []) h57)) fun J58 => gK v55 false (
 J58 v9 h53) (J58 (NV.tuple []) h53)) fun J54 => gK v48 true (
 bK (leI v49 (NV.int .i64 (.ofNat 62))) fun v165 =>
 J54 v165 h50) (J54 (NV.tuple []) h50)) fun J51 => gK v48 true (
 J51 v9 h44) (J51 (NV.tuple []) h44)))) fun J23 => gK v17 false (
 bK (eqI v18 (NV.int .i64 (.ofNat 64780))) fun v166 =>
 J23 v166 h19) (J23 (NV.tuple []) h19)) fun J20 => gK v17 false (
 J20 v9 h15) (J20 (NV.tuple []) h15)) fun J16 => gK v10 true (
 bK (leI v11 (NV.int .i64 (.ofNat 68))) fun v167 =>
 J16 v167 h12) (J16 (NV.tuple []) h12)) fun J13 => gK v10 true (
 J13 v9 h7) (J13 (NV.tuple []) h7))
theorem e22 : ikB Tryz.prog 9 Tryz.f22 = S22 := by kernel_rfl
theorem k22 [Sig] (w0 : World) : SOK cW w0 22 S22 := okW Tryz.func22 (by kernel_rfl) e22
end Go.Proofs.YtcindejphmbjpaaGreatDoor

