/- Seat wat: the shallow functions of this program, part 1: printed by a program, each held against the staged interpreter by the kernel. -/
import Derived.Test.YtglmbknbbfmhfaaGreatDoorWA
set_option maxRecDepth 100000
set_option linter.unusedVariables false
namespace Go.Proofs.YtglmbknbbfmhfaaGreatDoor
open Go Go.Ne
noncomputable def S115 (call : CallF) (N : Nat) (l : List NV) (h : H) : R :=
 uc l fun v0 l1 => uc l1 fun v2 l3 => un l3 (
 mK (calM call 30 [v0] h) fun v4 h5 =>
 bK (binO .neq v4 v2) fun v6 =>
 condK v6 (
 retC (NV.bool false) h5) (
 bK (nilO v0) fun v7 =>
 bK (fAddr 1 v7) fun v8 =>
 bK (ldO 1 false h5 v8) fun v9 =>
 bK (slcO Tryz.prog 53 h5 v9 (some (NV.int .i64 (.ofNat 1))) none none) fun v10 =>
 bK (nilO v0) fun v11 =>
 bK (fAddr 1 v11) fun v12 =>
 mK (stM 1 v12 v10 h5) fun v13 h14 =>
 retC (NV.bool true) h14))
theorem e115 : ikB Tryz.prog 6 Tryz.f115 = S115 := by kernel_rfl
theorem k115 (w0 : World) : SOK cW w0 115 S115 := okW Tryz.func115 (by kernel_rfl) e115
noncomputable def S116 (call : CallF) (N : Nat) (l : List NV) (h : H) : R :=
 uc l fun v0 l1 => uc l1 fun v2 l3 => un l3 (
 bK (bldO [(0, 1)] [NV.nilptr, NV.nmap, NV.nslice] [v0]) fun v4 =>
 mK (boxM false v4 h) fun v5 h6 =>
 mK (calM call 12 [v0, v2] h6) fun v7 h8 =>
 bK (extO 0 v7) fun v9 =>
 bK (extO 1 v7) fun v10 =>
 condK v10 (
 mK (calM call 123 [v5, v9] h8) fun v11 h12 =>
 retC v11 h12) (
 bK (nilO v0) fun v13 =>
 bK (fAddr 1 v13) fun v14 =>
 bK (ldO 1 false h8 v14) fun v15 =>
 bK (lenSl v15) fun v16 =>
 bK (eqI v16 (NV.int .i64 (.ofNat 0))) fun v17 =>
 jK (fun v18 h19 =>
 jK (fun v21 h22 =>
 jK (fun v24 h25 =>
 jK (fun v27 h28 =>
 jK (fun v30 h31 =>
 jK (fun v33 h34 =>
 jK (fun v36 h37 =>
 jK (fun v39 h40 =>
 bK (pickO v17 (NV.bool true) v39) fun v42 =>
 condK v42 (
 bK (nilO v0) fun v43 =>
 bK (fAddr 0 v43) fun v44 =>
 bK (ldO 1 false h40 v44) fun v45 =>
 mK (calM call 31 [v45, (NV.bool false)] h40) fun v46 h47 =>
 retC NV.nslice h47) (
 bK (nilO v0) fun v48 =>
 bK (fAddr 0 v48) fun v49 =>
 bK (ldO 1 false h40 (chkV h40 v49)) fun v50 =>
 bK (nilO v0) fun v51 =>
 bK (fAddr 1 v51) fun v52 =>
 bK (ldO 1 false h40 (chkV h40 v52)) fun v53 =>
 bK (slcO Tryz.prog 53 h40 (chkV h40 v53) none (some (NV.int .i64 (.ofNat 1))) none) fun v54 =>
 bK (bldO [(0, 1), (1, 1)] [NV.nilptr, NV.nslice] [v50, v54]) fun v55 =>
 mK (boxM false (chkV h40 v55) h40) fun v56 h57 =>
 bK (nilO v0) fun v58 =>
 bK (fAddr 1 v58) fun v59 =>
 bK (ldO 1 false h57 v59) fun v60 =>
 bK (slcO Tryz.prog 53 h57 v60 (some (NV.int .i64 (.ofNat 1))) none none) fun v61 =>
 bK (nilO v0) fun v62 =>
 bK (fAddr 1 v62) fun v63 =>
 mK (stM 1 v63 v61 h57) fun v64 h65 =>
 mK (calM call 123 [v5, v56] h65) fun v66 h67 =>
 retC v66 h67)) fun J41 => gK v17 false (
 bK (neI v36 (NV.int .i64 (.ofNat 4))) fun v68 =>
 J41 v68 h37) (J41 (NV.tuple []) h37)) fun J38 => gK v17 false (
 bK (ldO 1 false h34 v33) fun v69 =>
 J38 v69 h34) (J38 (NV.tuple []) h34)) fun J35 => gK v17 false (
 bK (fAddr 0 v30) fun v70 =>
 J35 v70 h31) (J35 (NV.tuple []) h31)) fun J32 => gK v17 false (
 bK (ixS 3 v27 (NV.int .i64 (.ofNat 0))) fun v71 =>
 J32 v71 h28) (J32 (NV.tuple []) h28)) fun J29 => gK v17 false (
 bK (ldO 1 false h25 v24) fun v72 =>
 J29 v72 h25) (J29 (NV.tuple []) h25)) fun J26 => gK v17 false (
 bK (fAddr 1 v21) fun v73 =>
 J26 v73 h22) (J26 (NV.tuple []) h22)) fun J23 => gK v17 false (
 bK (nilO v18) fun v74 =>
 J23 v74 h19) (J23 (NV.tuple []) h19)) fun J20 => gK v17 false (
 J20 v0 h8) (J20 (NV.tuple []) h8)))
theorem e116 : ikB Tryz.prog 6 Tryz.f116 = S116 := by kernel_rfl
theorem k116 (w0 : World) : SOK cW w0 116 S116 := okW Tryz.func116 (by kernel_rfl) e116
noncomputable def S117 (call : CallF) (N : Nat) (l : List NV) (h : H) : R :=
 uc l fun v0 l1 => un l1 (
 joinC 1 (fun v2 h3 =>
 retC v2 h3) fun J4 =>
 loopC N 2 (fun L8 v5 v6 h7 =>
 bK (nilO v5) fun v9 =>
 bK (fAddr 1 v9) fun v10 =>
 bK (ldO 1 false h7 v10) fun v11 =>
 bK (lenSl v11) fun v12 =>
 bK (gtI v12 (NV.int .i64 (.ofNat 0))) fun v13 =>
 jK (fun v14 h15 =>
 jK (fun v17 h18 =>
 jK (fun v20 h21 =>
 jK (fun v23 h24 =>
 jK (fun v26 h27 =>
 jK (fun v29 h30 =>
 jK (fun v32 h33 =>
 jK (fun v35 h36 =>
 bK (pickO v13 v35 (NV.bool false)) fun v38 =>
 condK v38 (
 mK (calM call 116 [v5, (NV.str 4 1835365481)] h36) fun v39 h40 =>
 mK (bslM 1 false [(0, 1)] [NV.nslice] [v39] h40) fun v41 h42 =>
 mK (appM Tryz.prog 42 v6 v41 h42) fun v43 h44 =>
 L8 v5 v43 h44) (
 J4 v6 h36)) fun J37 => gK v13 true (
 bK (notO v32) fun v45 =>
 J37 v45 h33) (J37 (NV.tuple []) h33)) fun J34 => gK v13 true (
 bK (ldO 1 false h30 v29) fun v46 =>
 J34 v46 h30) (J34 (NV.tuple []) h30)) fun J31 => gK v13 true (
 bK (fAddr 26 v26) fun v47 =>
 J31 v47 h27) (J31 (NV.tuple []) h27)) fun J28 => gK v13 true (
 bK (nilO v23) fun v48 =>
 J28 v48 h24) (J28 (NV.tuple []) h24)) fun J25 => gK v13 true (
 bK (ldO 1 false h21 v20) fun v49 =>
 J25 v49 h21) (J25 (NV.tuple []) h21)) fun J22 => gK v13 true (
 bK (fAddr 0 v17) fun v50 =>
 J22 v50 h18) (J22 (NV.tuple []) h18)) fun J19 => gK v13 true (
 bK (nilO v14) fun v51 =>
 J19 v51 h15) (J19 (NV.tuple []) h15)) fun J16 => gK v13 true (
 J16 v5 h7) (J16 (NV.tuple []) h7)) v0 NV.nslice h)
theorem e117 : ikB Tryz.prog 6 Tryz.f117 = S117 := by kernel_rfl
theorem k117 (w0 : World) : SOK cW w0 117 S117 := okW Tryz.func117 (by kernel_rfl) e117
noncomputable def S118 (call : CallF) (N : Nat) (l : List NV) (h : H) : R :=
 uc l fun v0 l1 => un l1 (
 joinC 1 (fun v2 h3 =>
 retC v2 h3) fun J4 =>
 loopC N 2 (fun L8 v5 v6 h7 =>
 bK (nilO v5) fun v9 =>
 bK (fAddr 1 v9) fun v10 =>
 bK (ldO 1 false h7 v10) fun v11 =>
 bK (lenSl v11) fun v12 =>
 bK (gtI v12 (NV.int .i64 (.ofNat 0))) fun v13 =>
 jK (fun v14 h15 =>
 jK (fun v17 h18 =>
 jK (fun v20 h21 =>
 jK (fun v23 h24 =>
 jK (fun v26 h27 =>
 jK (fun v29 h30 =>
 jK (fun v32 h33 =>
 jK (fun v35 h36 =>
 bK (pickO v13 v35 (NV.bool false)) fun v38 =>
 condK v38 (
 bK (nilO v5) fun v39 =>
 bK (fAddr 0 v39) fun v40 =>
 bK (ldO 1 false h36 v40) fun v41 =>
 bK (nilO v41) fun v42 =>
 bK (fAddr 11 v42) fun v43 =>
 bK (ixA 7 1 v43 (NV.int .i64 (.ofNat 0))) fun v44 =>
 bK (ldO 1 false h36 v44) fun v45 =>
 mK (calM call 51 [v5, v45] h36) fun v46 h47 =>
 bK (bldO [(0, 1), (1, 1)] [(NV.int .i64 (.ofNat 0)), (NV.int .i64 (.ofNat 0)), (NV.int .i64 (.ofNat 0)), (NV.int .u64 (.ofNat 0)), (NV.int .u64 (.ofNat 0)), NV.nslice, NV.nslice, NV.nslice, (NV.bool false)] [(NV.int .i64 (.ofNat 210)), v46]) fun v48 =>
 mK (bslM 1 false [(0, 9)] [(NV.int .i64 (.ofNat 0)), (NV.int .i64 (.ofNat 0)), (NV.int .i64 (.ofNat 0)), (NV.int .u64 (.ofNat 0)), (NV.int .u64 (.ofNat 0)), NV.nslice, NV.nslice, NV.nslice, (NV.bool false)] [v48] h47) fun v49 h50 =>
 mK (bslM 1 false [(0, 1)] [NV.nslice] [v49] h50) fun v51 h52 =>
 mK (appM Tryz.prog 42 v6 v51 h52) fun v53 h54 =>
 L8 v5 v53 h54) (
 J4 v6 h36)) fun J37 => gK v13 true (
 bK (notO v32) fun v55 =>
 J37 v55 h33) (J37 (NV.tuple []) h33)) fun J34 => gK v13 true (
 bK (ldO 1 false h30 v29) fun v56 =>
 J34 v56 h30) (J34 (NV.tuple []) h30)) fun J31 => gK v13 true (
 bK (fAddr 26 v26) fun v57 =>
 J31 v57 h27) (J31 (NV.tuple []) h27)) fun J28 => gK v13 true (
 bK (nilO v23) fun v58 =>
 J28 v58 h24) (J28 (NV.tuple []) h24)) fun J25 => gK v13 true (
 bK (ldO 1 false h21 v20) fun v59 =>
 J25 v59 h21) (J25 (NV.tuple []) h21)) fun J22 => gK v13 true (
 bK (fAddr 0 v17) fun v60 =>
 J22 v60 h18) (J22 (NV.tuple []) h18)) fun J19 => gK v13 true (
 bK (nilO v14) fun v61 =>
 J19 v61 h15) (J19 (NV.tuple []) h15)) fun J16 => gK v13 true (
 J16 v5 h7) (J16 (NV.tuple []) h7)) v0 NV.nslice h)
theorem e118 : ikB Tryz.prog 6 Tryz.f118 = S118 := by kernel_rfl
theorem k118 (w0 : World) : SOK cW w0 118 S118 := okW Tryz.func118 (by kernel_rfl) e118
noncomputable def S119 (call : CallF) (N : Nat) (l : List NV) (h : H) : R :=
 uc l fun v0 l1 => un l1 (
 joinC 1 (fun v2 h3 =>
 retC v2 h3) fun J4 =>
 loopC N 2 (fun L8 v5 v6 h7 =>
 bK (nilO v5) fun v9 =>
 bK (fAddr 1 v9) fun v10 =>
 bK (ldO 1 false h7 v10) fun v11 =>
 bK (lenSl v11) fun v12 =>
 bK (gtI v12 (NV.int .i64 (.ofNat 0))) fun v13 =>
 jK (fun v14 h15 =>
 jK (fun v17 h18 =>
 jK (fun v20 h21 =>
 jK (fun v23 h24 =>
 jK (fun v26 h27 =>
 jK (fun v29 h30 =>
 jK (fun v32 h33 =>
 jK (fun v35 h36 =>
 bK (pickO v13 v35 (NV.bool false)) fun v38 =>
 condK v38 (
 mK (calM call 105 [v5] h36) fun v39 h40 =>
 mK (appM Tryz.prog 5 v6 v39 h40) fun v41 h42 =>
 L8 v5 v41 h42) (
 J4 v6 h36)) fun J37 => gK v13 true (
 bK (notO v32) fun v43 =>
 J37 v43 h33) (J37 (NV.tuple []) h33)) fun J34 => gK v13 true (
 bK (ldO 1 false h30 v29) fun v44 =>
 J34 v44 h30) (J34 (NV.tuple []) h30)) fun J31 => gK v13 true (
 bK (fAddr 26 v26) fun v45 =>
 J31 v45 h27) (J31 (NV.tuple []) h27)) fun J28 => gK v13 true (
 bK (nilO v23) fun v46 =>
 J28 v46 h24) (J28 (NV.tuple []) h24)) fun J25 => gK v13 true (
 bK (ldO 1 false h21 v20) fun v47 =>
 J25 v47 h21) (J25 (NV.tuple []) h21)) fun J22 => gK v13 true (
 bK (fAddr 0 v17) fun v48 =>
 J22 v48 h18) (J22 (NV.tuple []) h18)) fun J19 => gK v13 true (
 bK (nilO v14) fun v49 =>
 J19 v49 h15) (J19 (NV.tuple []) h15)) fun J16 => gK v13 true (
 J16 v5 h7) (J16 (NV.tuple []) h7)) v0 NV.nslice h)
theorem e119 : ikB Tryz.prog 6 Tryz.f119 = S119 := by kernel_rfl
theorem k119 (w0 : World) : SOK cW w0 119 S119 := okW Tryz.func119 (by kernel_rfl) e119
noncomputable def S120 (call : CallF) (N : Nat) (l : List NV) (h : H) : R :=
 uc l fun v0 l1 => uc l1 fun v2 l3 => un l3 (
 bK (nilO v0) fun v4 =>
 bK (fAddr 0 v4) fun v5 =>
 bK (fAddr 2 v5) fun v6 =>
 bK (ldO 1 false h (chkV h v6)) fun v7 =>
 bK (lenSl v7) fun v8 =>
 bK (nilO v0) fun v9 =>
 bK (fAddr 0 v9) fun v10 =>
 bK (fAddr 3 v10) fun v11 =>
 bK (ldO 1 false h (chkV h v11)) fun v12 =>
 bK (lenSl v12) fun v13 =>
 bK (nilO v0) fun v14 =>
 bK (fAddr 0 v14) fun v15 =>
 bK (fAddr 4 v15) fun v16 =>
 bK (ldO 1 false h (chkV h v16)) fun v17 =>
 bK (lenSl v17) fun v18 =>
 bK (nilO v0) fun v19 =>
 bK (fAddr 0 v19) fun v20 =>
 bK (fAddr 5 v20) fun v21 =>
 bK (ldO 1 false h (chkV h v21)) fun v22 =>
 bK (lenSl v22) fun v23 =>
 bK (bldO [(0, 1), (1, 1), (2, 1), (3, 1)] [(NV.int .i64 (.ofNat 0)), (NV.int .i64 (.ofNat 0)), (NV.int .i64 (.ofNat 0)), (NV.int .i64 (.ofNat 0))] [v8, v13, v18, v23]) fun v24 =>
 bK (ixArr 4 false 1 v24 v2) fun v25 =>
 bK (nilO v0) fun v26 =>
 bK (fAddr 0 v26) fun v27 =>
 bK (fAddr 1 v27) fun v28 =>
 bK (ldO 1 false h v28) fun v29 =>
 bK (lenSl v29) fun v30 =>
 joinC 1 (fun v31 h32 =>
 retC v31 h32) fun J33 =>
 loopC N 5 (fun L40 v34 v35 v36 v37 v38 h39 =>
 bK (ltI v38 v37) fun v41 =>
 condK v41 (
 bK (ixS 13 v36 v38) fun v42 =>
 bK (ldO 13 true h39 v42) fun v43 =>
 mK (alM (NB.cells [(NV.str 0 0), (NV.str 0 0), (NV.int .i64 (.ofNat 0)), (NV.int .i64 (.ofNat 0)), (NV.int .i64 (.ofNat 0)), (NV.int .i64 (.ofNat 0)), (NV.int .i64 (.ofNat 0)), (NV.bool false), (NV.int .i64 (.ofNat 0)), (NV.int .i64 (.ofNat 0)), (NV.bool false), (NV.int .i64 (.ofNat 0)), (NV.bool false)]) h39) fun v44 h45 =>
 mK (stM 13 v44 v43 h45) fun v46 h47 =>
 bK (fAddr 2 v44) fun v48 =>
 bK (ldO 1 false h47 v48) fun v49 =>
 bK (eqI v49 v34) fun v50 =>
 joinC 5 (fun v51 v52 v53 v54 v55 h56 =>
 bK (addI v55 (NV.int .i64 (.ofNat 1))) fun v58 =>
 L40 v51 v52 v53 v54 v58 h56) fun J57 =>
 condK v50 (
 bK (addI v35 (NV.int .i64 (.ofNat 1))) fun v59 =>
 J57 v34 v59 v36 v37 v38 h47) (
 J57 v34 v35 v36 v37 v38 h47)) (
 J33 v35 h39)) v2 v25 v29 v30 (NV.int .i64 (.ofNat 0)) h)
theorem e120 : ikB Tryz.prog 6 Tryz.f120 = S120 := by kernel_rfl
theorem k120 (w0 : World) : SOK cW w0 120 S120 := okW Tryz.func120 (by kernel_rfl) e120
noncomputable def S121 (call : CallF) (N : Nat) (l : List NV) (h : H) : R :=
 uc l fun v0 l1 => un l1 (
 mK (boxM false v0 h) fun v2 h3 =>
 bK (ldO 1 false h3 v2) fun v4 =>
 mK (calM call 108 [v4, (NV.bool true)] h3) fun v5 h6 =>
 bK (extO 0 v5) fun v7 =>
 bK (extO 1 v5) fun v8 =>
 bK (extO 2 v5) fun v9 =>
 mK (alM (NB.cells [NV.nslice, NV.nslice]) h6) fun v10 h11 =>
 mK (stM 2 v10 v8 h11) fun v12 h13 =>
 bK (ldO 1 false h13 v2) fun v14 =>
 mK (mapM none h13) fun v15 h16 =>
 bK (bldO [(0, 1), (1, 1)] [NV.nilptr, NV.nmap, NV.nslice] [v14, v15]) fun v17 =>
 mK (boxM false v17 h16) fun v18 h19 =>
 mK (alM (NB.cells [NV.nilptr]) h19) fun v20 h21 =>
 mK (stM 1 v20 v18 h21) fun v22 h23 =>
 bK (lenSl v9) fun v24 =>
 joinC 5 (fun v25 v26 v27 v28 v29 h30 =>
 bK (ldO 1 false h30 v25) fun v32 =>
 bK (nilO v32) fun v33 =>
 bK (fAddr 0 v33) fun v34 =>
 bK (ldO 1 false h30 v34) fun v35 =>
 bK (nilO v35) fun v36 =>
 bK (fAddr 0 v36) fun v37 =>
 bK (fAddr 2 v37) fun v38 =>
 bK (ldO 1 false h30 v38) fun v39 =>
 bK (lenSl v39) fun v40 =>
 bK (ldO 1 false h30 (chkV h30 v25)) fun v41 =>
 bK (nilO v41) fun v42 =>
 bK (fAddr 0 v42) fun v43 =>
 bK (ldO 1 false h30 (chkV h30 v43)) fun v44 =>
 bK (ldO 1 false h30 (chkV h30 v25)) fun v45 =>
 bK (nilO v45) fun v46 =>
 bK (fAddr 0 v46) fun v47 =>
 bK (ldO 1 false h30 (chkV h30 v47)) fun v48 =>
 bK (nilO v48) fun v49 =>
 bK (fAddr 0 v49) fun v50 =>
 bK (fAddr 2 v50) fun v51 =>
 bK (ldO 1 false h30 (chkV h30 v51)) fun v52 =>
 bK (bldO [(0, 1)] [(NV.int .i64 (.ofNat 0)), NV.nslice, NV.nslice] [v26]) fun v53 =>
 mK (bslM 1 false [(0, 3)] [(NV.int .i64 (.ofNat 0)), NV.nslice, NV.nslice] [(chkV h30 v53)] h30) fun v54 h55 =>
 mK (appM Tryz.prog 44 (chkV h55 v52) (chkV h55 v54) h55) fun v56 h57 =>
 nextK h55 h57 (
 bK (nilO v44) fun v58 =>
 bK (fAddr 0 v58) fun v59 =>
 bK (fAddr 2 v59) fun v60 =>
 bK (ldO 1 false h57 (chkV h57 v25)) fun v61 =>
 sameK v61 v41 (
 bK (ldO 1 false h57 (chkV h57 v43)) fun v62 =>
 sameK v62 v44 (
 mK (stM 1 (chkV h57 v60) (chkV h57 v56) h57) fun v63 h64 =>
 nextK h57 h64 (
 bK (ldO 1 false h64 v25) fun v65 =>
 mK (calM call 12 [v65, (NV.str 5 465490374508)] h64) fun v66 h67 =>
 bK (extO 0 v66) fun v68 =>
 bK (extO 1 v66) fun v69 =>
 joinC 5 (fun v70 v71 v72 v73 v74 h75 =>
 bK (ldO 1 false h75 v72) fun v77 =>
 mK (bslM 1 false [(0, 1)] [(NV.str 0 0)] [(NV.str 0 0)] h75) fun v78 h79 =>
 bK (nilO v77) fun v80 =>
 bK (fAddr 2 v80) fun v81 =>
 mK (stM 1 v81 v78 h79) fun v82 h83 =>
 bK (ldO 1 false h83 v72) fun v84 =>
 bK (ldO 1 false h83 v70) fun v85 =>
 mK (calM call 123 [v84, v85] h83) fun v86 h87 =>
 bK (ldO 1 false h87 v70) fun v88 =>
 bK (nilO v88) fun v89 =>
 bK (fAddr 0 v89) fun v90 =>
 bK (ldO 1 false h87 v90) fun v91 =>
 bK (nilO v91) fun v92 =>
 bK (fAddr 0 v92) fun v93 =>
 bK (fAddr 2 v93) fun v94 =>
 bK (ldO 1 false h87 v94) fun v95 =>
 bK (bldO [(0, 1), (1, 1), (2, 1)] [(NV.int .i64 (.ofNat 0)), NV.nslice, NV.nslice] [v71, v74, v86]) fun v96 =>
 bK (ixS 3 v95 v73) fun v97 =>
 mK (stM 3 v97 v96 h87) fun v98 h99 =>
 retC (NV.tuple []) h99) fun J76 =>
 loopC N 9 (fun L110 v100 v101 v102 v103 v104 v105 v106 v107 v108 h109 =>
 condK v108 (
 joinC 7 (fun v111 v112 v113 v114 v115 v116 v117 h118 =>
 bK (ldO 1 false h118 v111) fun v120 =>
 mK (calM call 12 [v120, (NV.str 5 465490374508)] h118) fun v121 h122 =>
 bK (extO 0 v121) fun v123 =>
 bK (extO 1 v121) fun v124 =>
 L110 v111 v112 v113 v114 v115 v116 v117 v123 v124 h122) fun J119 =>
 mK (calM call 104 [v107, (NV.bool true)] h109) fun v125 h126 =>
 bK (extO 0 v125) fun v127 =>
 bK (extO 1 v125) fun v128 =>
 bK (lenSl v128) fun v129 =>
 joinC 8 (fun v130 v131 v132 v133 v134 v135 v136 v137 h138 =>
 mK (appM Tryz.prog 3 v136 v137 h138) fun v140 h141 =>
 J119 v130 v131 v132 v133 v134 v135 v140 h141) fun J139 =>
 loopC N 11 (fun L154 v142 v143 v144 v145 v146 v147 v148 v149 v150 v151 v152 h153 =>
 bK (ltI v152 v151) fun v155 =>
 condK v155 (
 bK (ixS 1 v150 v152) fun v156 =>
 bK (ldO 1 false h153 v156) fun v157 =>
 bK (fAddr 0 v144) fun v158 =>
 bK (ldO 1 false h153 v158) fun v159 =>
 bK (lenSl v159) fun v160 =>
 bK (lenSl v148) fun v161 =>
 bK (addI v160 v161) fun v162 =>
 bK (addI v162 v152) fun v163 =>
 mK (calV call v146 [v163, v157] h153) fun v164 h165 =>
 bK (addI v152 (NV.int .i64 (.ofNat 1))) fun v166 =>
 L154 v142 v143 v144 v145 v146 v147 v148 v149 v150 v151 v166 h165) (
 J139 v142 v143 v144 v145 v146 v147 v148 v149 h153)) v100 v101 v102 v103 v104 v105 v106 v127 v128 v129 (NV.int .i64 (.ofNat 0)) h126) (
 J76 v100 v101 v103 v105 v106 h109)) v25 v26 v27 v28 v29 v40 NV.nslice v68 v69 h67))))) fun J31 =>
 loopC N 8 (fun L176 v167 v168 v169 v170 v171 v172 v173 v174 h175 =>
 bK (ltI v174 v173) fun v177 =>
 condK v177 (
 bK (ixS 1 v172 v174) fun v178 =>
 bK (ldO 1 false h175 v178) fun v179 =>
 mK (calV call v171 [v174, v179] h175) fun v180 h181 =>
 bK (addI v174 (NV.int .i64 (.ofNat 1))) fun v182 =>
 L176 v167 v168 v169 v170 v171 v172 v173 v182 h181) (
 J31 v167 v168 v169 v170 v171 h175)) v2 v7 v10 v20 (NV.func (.func 162) [] [v20, v2]) v9 v24 (NV.int .i64 (.ofNat 0)) h23)
theorem e121 : ikB Tryz.prog 6 Tryz.f121 = S121 := by kernel_rfl
theorem k121 (w0 : World) : SOK cW w0 121 S121 := okW Tryz.func121 (by kernel_rfl) e121
noncomputable def S122 (call : CallF) (N : Nat) (l : List NV) (h : H) : R :=
 uc l fun v0 l1 => uc l1 fun v2 l3 => un l3 (
 mK (calM call 157 [v0] h) fun v4 h5 =>
 mK (calM call 12 [v0, (NV.str 4 1835363429)] h5) fun v6 h7 =>
 bK (extO 0 v6) fun v8 =>
 bK (extO 1 v6) fun v9 =>
 bK (nilO v0) fun v10 =>
 bK (fAddr 0 v10) fun v11 =>
 bK (ldO 1 false h7 v11) fun v12 =>
 mK (calM call 31 [v12, v9] h7) fun v13 h14 =>
 mK (calM call 163 [v8] h14) fun v15 h16 =>
 joinC 4 (fun v17 v18 v19 v20 h21 =>
 bK (lenSl v20) fun v23 =>
 bK (nilO v17) fun v24 =>
 bK (fAddr 0 v24) fun v25 =>
 bK (ldO 1 false h21 (chkV h21 v25)) fun v26 =>
 bK (nilO v17) fun v27 =>
 bK (fAddr 0 v27) fun v28 =>
 bK (ldO 1 false h21 (chkV h21 v28)) fun v29 =>
 bK (nilO v29) fun v30 =>
 bK (fAddr 0 v30) fun v31 =>
 bK (fAddr 3 v31) fun v32 =>
 bK (ldO 1 false h21 (chkV h21 v32)) fun v33 =>
 bK (bldO [(0, 1), (1, 1), (2, 1)] [(NV.int .i64 (.ofNat 0)), (NV.int .i64 (.ofNat 0)), (NV.bool false)] [v23, v23, (NV.bool true)]) fun v34 =>
 bK (bldO [(0, 1), (1, 3)] [(NV.int .i64 (.ofNat 0)), (NV.int .i64 (.ofNat 0)), (NV.int .i64 (.ofNat 0)), (NV.bool false)] [v19, v34]) fun v35 =>
 mK (bslM 1 false [(0, 4)] [(NV.int .i64 (.ofNat 0)), (NV.int .i64 (.ofNat 0)), (NV.int .i64 (.ofNat 0)), (NV.bool false)] [(chkV h21 v35)] h21) fun v36 h37 =>
 mK (appM Tryz.prog 76 (chkV h37 v33) (chkV h37 v36) h37) fun v38 h39 =>
 nextK h37 h39 (
 bK (nilO v26) fun v40 =>
 bK (fAddr 0 v40) fun v41 =>
 bK (fAddr 3 v41) fun v42 =>
 bK (ldO 1 false h39 (chkV h39 v25)) fun v43 =>
 sameK v43 v26 (
 mK (stM 1 (chkV h39 v42) (chkV h39 v38) h39) fun v44 h45 =>
 nextK h39 h45 (
 bK (nilO v17) fun v46 =>
 bK (fAddr 0 v46) fun v47 =>
 bK (ldO 1 false h45 (chkV h45 v47)) fun v48 =>
 bK (nilO v17) fun v49 =>
 bK (fAddr 0 v49) fun v50 =>
 bK (ldO 1 false h45 (chkV h45 v50)) fun v51 =>
 bK (nilO v51) fun v52 =>
 bK (fAddr 0 v52) fun v53 =>
 bK (fAddr 8 v53) fun v54 =>
 bK (ldO 1 false h45 (chkV h45 v54)) fun v55 =>
 bK (bldO [(0, 1)] [(NV.int .i64 (.ofNat 0)), (NV.int .i64 (.ofNat 0)), (NV.int .i64 (.ofNat 0)), (NV.int .u64 (.ofNat 0)), (NV.int .u64 (.ofNat 0)), NV.nslice, NV.nslice, NV.nslice, (NV.bool false)] [(NV.int .i64 (.ofNat 65))]) fun v56 =>
 mK (bslM 1 false [(0, 9)] [(NV.int .i64 (.ofNat 0)), (NV.int .i64 (.ofNat 0)), (NV.int .i64 (.ofNat 0)), (NV.int .u64 (.ofNat 0)), (NV.int .u64 (.ofNat 0)), NV.nslice, NV.nslice, NV.nslice, (NV.bool false)] [(chkV h45 v56)] h45) fun v57 h58 =>
 bK (bldO [(0, 1), (2, 1), (3, 1), (4, 1)] [(NV.int .i64 (.ofNat 0)), (NV.int .i64 (.ofNat 0)), (NV.int .i64 (.ofNat 0)), NV.nslice, NV.nslice] [v19, v18, v57, v20]) fun v59 =>
 mK (bslM 1 false [(0, 5)] [(NV.int .i64 (.ofNat 0)), (NV.int .i64 (.ofNat 0)), (NV.int .i64 (.ofNat 0)), NV.nslice, NV.nslice] [(chkV h58 v59)] h58) fun v60 h61 =>
 mK (appM Tryz.prog 105 (chkV h61 v55) (chkV h61 v60) h61) fun v62 h63 =>
 nextK h61 h63 (
 bK (nilO v48) fun v64 =>
 bK (fAddr 0 v64) fun v65 =>
 bK (fAddr 8 v65) fun v66 =>
 bK (ldO 1 false h63 (chkV h63 v47)) fun v67 =>
 sameK v67 v48 (
 mK (stM 1 (chkV h63 v66) (chkV h63 v62) h63) fun v68 h69 =>
 nextK h63 h69 (
 retC (NV.tuple []) h69))))))) fun J22 =>
 condK v15 (
 mK (calM call 118 [v8] h16) fun v70 h71 =>
 J22 v0 v2 v4 v70 h71) (
 mK (calM call 117 [v8] h16) fun v72 h73 =>
 J22 v0 v2 v4 v72 h73))
theorem e122 : ikB Tryz.prog 6 Tryz.f122 = S122 := by kernel_rfl
theorem k122 (w0 : World) : SOK cW w0 122 S122 := okW Tryz.func122 (by kernel_rfl) e122
noncomputable def S123 (call : CallF) (N : Nat) (l : List NV) (h : H) : R :=
 uc l fun v0 l1 => uc l1 fun v2 l3 => un l3 (
 mK (calM call 164 [v0, v2] h) fun v4 h5 =>
 mK (calM call 34 [v2] h5) fun v6 h7 =>
 retC v4 h7)
theorem e123 : ikB Tryz.prog 6 Tryz.f123 = S123 := by kernel_rfl
theorem k123 (w0 : World) : SOK cW w0 123 S123 := okW Tryz.func123 (by kernel_rfl) e123
noncomputable def S56 (call : CallF) (N : Nat) (l : List NV) (h : H) : R :=
 uc l fun v0 l1 => un l1 (
 bK (lenSl v0) fun v2 =>
 joinC 1 (fun v3 h4 =>
 retC v3 h4) fun J5 =>
 loopC N 4 (fun L11 v6 v7 v8 v9 h10 =>
 bK (ltI v9 v8) fun v12 =>
 condK v12 (
 bK (ixS 9 v7 v9) fun v13 =>
 bK (ldO 9 true h10 v13) fun v14 =>
 mK (alM (NB.cells [(NV.int .i64 (.ofNat 0)), (NV.int .i64 (.ofNat 0)), (NV.int .i64 (.ofNat 0)), (NV.int .u64 (.ofNat 0)), (NV.int .u64 (.ofNat 0)), NV.nslice, NV.nslice, NV.nslice, (NV.bool false)]) h10) fun v15 h16 =>
 mK (stM 9 v15 v14 h16) fun v17 h18 =>
 bK (fAddr 6 v15) fun v19 =>
 bK (ldO 1 false h18 (chkV h18 v19)) fun v20 =>
 bK (fAddr 7 v15) fun v21 =>
 bK (ldO 1 false h18 (chkV h18 v21)) fun v22 =>
 mK (calM call 56 [(chkV h18 v20)] h18) fun v23 h24 =>
 nextK h18 h24 (
 bK (ldO 1 false h24 (chkV h24 v21)) fun v25 =>
 sameK v25 v22 (
 mK (calM call 56 [(chkV h24 v22)] h24) fun v26 h27 =>
 nextK h24 h27 (
 bK (foldMM true v23 [v26]) fun v28 =>
 bK (addI (NV.int .i64 (.ofNat 1)) v28) fun v29 =>
 bK (foldMM true v6 [v29]) fun v30 =>
 bK (addI v9 (NV.int .i64 (.ofNat 1))) fun v31 =>
 L11 v30 v7 v8 v31 h27)))) (
 J5 v6 h10)) (NV.int .i64 (.ofNat 0)) v0 v2 (NV.int .i64 (.ofNat 0)) h)
theorem e56 : ikB Tryz.prog 6 Tryz.f56 = S56 := by kernel_rfl
theorem k56 (w0 : World) : SOK cW w0 56 S56 := okW Tryz.func56 (by kernel_rfl) e56
noncomputable def S124 (call : CallF) (N : Nat) (l : List NV) (h : H) : R :=
 uc l fun v0 l1 => uc l1 fun v2 l3 => un l3 (
 bK (lenSl v0) fun v4 =>
 joinC 0 (fun h5 =>
 retC (NV.int .i64 (.negSucc 0)) h5) fun J6 =>
 loopC N 4 (fun L12 v7 v8 v9 v10 h11 =>
 bK (ltI v10 v9) fun v13 =>
 condK v13 (
 bK (ixS 3 v7 v10) fun v14 =>
 bK (ldO 3 true h11 v14) fun v15 =>
 mK (calV call v8 [v15] h11) fun v16 h17 =>
 condK v16 (
 retC v10 h17) (
 bK (addI v10 (NV.int .i64 (.ofNat 1))) fun v18 =>
 L12 v7 v8 v9 v18 h17)) (
 J6 h11)) v0 v2 v4 (NV.int .i64 (.ofNat 0)) h)
theorem e124 : ikB Tryz.prog 6 Tryz.f124 = S124 := by kernel_rfl
theorem k124 (w0 : World) : SOK cW w0 124 S124 := okW Tryz.func124 (by kernel_rfl) e124
noncomputable def S125 (call : CallF) (N : Nat) (l : List NV) (h : H) : R :=
 uc l fun v0 l1 => uc l1 fun v2 l3 => un l3 (
 bK (lenSl v0) fun v4 =>
 joinC 0 (fun h5 =>
 retC (NV.int .i64 (.negSucc 0)) h5) fun J6 =>
 loopC N 4 (fun L12 v7 v8 v9 v10 h11 =>
 bK (ltI v10 v9) fun v13 =>
 condK v13 (
 bK (ixS 3 v7 v10) fun v14 =>
 bK (ldO 3 true h11 v14) fun v15 =>
 mK (calV call v8 [v15] h11) fun v16 h17 =>
 condK v16 (
 retC v10 h17) (
 bK (addI v10 (NV.int .i64 (.ofNat 1))) fun v18 =>
 L12 v7 v8 v9 v18 h17)) (
 J6 h11)) v0 v2 v4 (NV.int .i64 (.ofNat 0)) h)
theorem e125 : ikB Tryz.prog 6 Tryz.f125 = S125 := by kernel_rfl
theorem k125 (w0 : World) : SOK cW w0 125 S125 := okW Tryz.func125 (by kernel_rfl) e125
noncomputable def S63 (call : CallF) (N : Nat) (l : List NV) (h : H) : R :=
 uc l fun v0 l1 => uc l1 fun v2 l3 => un l3 (
 mK (calM call 127 [v0, v2] h) fun v4 h5 =>
 bK (geI v4 (NV.int .i64 (.ofNat 0))) fun v6 =>
 retC v6 h5)
theorem e63 : ikB Tryz.prog 6 Tryz.f63 = S63 := by kernel_rfl
theorem k63 (w0 : World) : SOK cW w0 63 S63 := okW Tryz.func63 (by kernel_rfl) e63
noncomputable def S126 (call : CallF) (N : Nat) (l : List NV) (h : H) : R :=
 uc l fun v0 l1 => uc l1 fun v2 l3 => un l3 (
 bK (lenSl v0) fun v4 =>
 joinC 0 (fun h5 =>
 retC (NV.int .i64 (.negSucc 0)) h5) fun J6 =>
 loopC N 4 (fun L12 v7 v8 v9 v10 h11 =>
 bK (ltI v10 v9) fun v13 =>
 condK v13 (
 bK (ixS 5 v7 v10) fun v14 =>
 bK (ldO 5 true h11 v14) fun v15 =>
 mK (calV call v8 [v15] h11) fun v16 h17 =>
 condK v16 (
 retC v10 h17) (
 bK (addI v10 (NV.int .i64 (.ofNat 1))) fun v18 =>
 L12 v7 v8 v9 v18 h17)) (
 J6 h11)) v0 v2 v4 (NV.int .i64 (.ofNat 0)) h)
theorem e126 : ikB Tryz.prog 6 Tryz.f126 = S126 := by kernel_rfl
theorem k126 (w0 : World) : SOK cW w0 126 S126 := okW Tryz.func126 (by kernel_rfl) e126
noncomputable def S128 (call : CallF) (N : Nat) (l : List NV) (h : H) : R :=
 uc l fun v0 l1 => uc l1 fun v2 l3 => un l3 (
 bK (lenSl v0) fun v4 =>
 joinC 0 (fun h5 =>
 retC (NV.int .i64 (.negSucc 0)) h5) fun J6 =>
 loopC N 4 (fun L12 v7 v8 v9 v10 h11 =>
 bK (ltI v10 v9) fun v13 =>
 condK v13 (
 bK (ixS 4 v7 v10) fun v14 =>
 bK (ldO 4 true h11 v14) fun v15 =>
 mK (calV call v8 [v15] h11) fun v16 h17 =>
 condK v16 (
 retC v10 h17) (
 bK (addI v10 (NV.int .i64 (.ofNat 1))) fun v18 =>
 L12 v7 v8 v9 v18 h17)) (
 J6 h11)) v0 v2 v4 (NV.int .i64 (.ofNat 0)) h)
theorem e128 : ikB Tryz.prog 6 Tryz.f128 = S128 := by kernel_rfl
theorem k128 (w0 : World) : SOK cW w0 128 S128 := okW Tryz.func128 (by kernel_rfl) e128
noncomputable def S67 (call : CallF) (N : Nat) (l : List NV) (h : H) : R :=
 uc l fun v0 l1 => uc l1 fun v2 l3 => un l3 (
 mK (boxM false v2 h) fun v4 h5 =>
 mK (calM call 129 [v0, (NV.func (.func 130) [] [v4])] h5) fun v6 h7 =>
 bK (notO v6) fun v8 =>
 retC v8 h7)
theorem e67 : ikB Tryz.prog 6 Tryz.f67 = S67 := by kernel_rfl
theorem k67 (w0 : World) : SOK cW w0 67 S67 := okW Tryz.func67 (by kernel_rfl) e67
noncomputable def S68 (call : CallF) (N : Nat) (l : List NV) (h : H) : R :=
 uc l fun v0 l1 => un l1 (
 bK (geI v0 (NV.int .i64 (.ofNat 123))) fun v2 =>
 jK (fun v3 h4 =>
 jK (fun v6 h7 =>
 bK (pickO v2 v6 (NV.bool false)) fun v9 =>
 jK (fun v10 h11 =>
 jK (fun v13 h14 =>
 bK (pickO v9 (NV.bool true) v13) fun v16 =>
 retC v16 h14) fun J15 => gK v9 false (
 mK (calM call 76 [v10] h11) fun v17 h18 =>
 J15 v17 h18) (J15 (NV.tuple []) h11)) fun J12 => gK v9 false (
 J12 v0 h7) (J12 (NV.tuple []) h7)) fun J8 => gK v2 true (
 bK (leI v3 (NV.int .i64 (.ofNat 127))) fun v19 =>
 J8 v19 h4) (J8 (NV.tuple []) h4)) fun J5 => gK v2 true (
 J5 v0 h) (J5 (NV.tuple []) h))
theorem e68 : ikB Tryz.prog 6 Tryz.f68 = S68 := by kernel_rfl
theorem k68 (w0 : World) : SOK cW w0 68 S68 := okW Tryz.func68 (by kernel_rfl) e68
noncomputable def S70 (call : CallF) (N : Nat) (l : List NV) (h : H) : R :=
 uc l fun v0 l1 => un l1 (
 bK (geI v0 (NV.int .i64 (.ofNat 0))) fun v2 =>
 jK (fun v3 h4 =>
 jK (fun v6 h7 =>
 bK (pickO v2 v6 (NV.bool false)) fun v9 =>
 retC v9 h7) fun J8 => gK v2 true (
 bK (ltI v3 (NV.int .i64 (.ofNat 4294967296))) fun v10 =>
 J8 v10 h4) (J8 (NV.tuple []) h4)) fun J5 => gK v2 true (
 J5 v0 h) (J5 (NV.tuple []) h))
theorem e70 : ikB Tryz.prog 6 Tryz.f70 = S70 := by kernel_rfl
theorem k70 (w0 : World) : SOK cW w0 70 S70 := okW Tryz.func70 (by kernel_rfl) e70
noncomputable def S71 (call : CallF) (N : Nat) (l : List NV) (h : H) : R :=
 uc l fun v0 l1 => un l1 (
 mK (calM call 56 [v0] h) fun v2 h3 =>
 bK (leI v2 (NV.int .i64 (.ofNat 500))) fun v4 =>
 jK (fun v5 h6 =>
 jK (fun v8 h9 =>
 bK (pickO v4 v8 (NV.bool false)) fun v11 =>
 retC v11 h9) fun J10 => gK v4 true (
 mK (calM call 131 [v5, (NV.func (.func 132) [] [])] h6) fun v12 h13 =>
 J10 v12 h13) (J10 (NV.tuple []) h6)) fun J7 => gK v4 true (
 J7 v0 h3) (J7 (NV.tuple []) h3))
theorem e71 : ikB Tryz.prog 6 Tryz.f71 = S71 := by kernel_rfl
theorem k71 (w0 : World) : SOK cW w0 71 S71 := okW Tryz.func71 (by kernel_rfl) e71
noncomputable def S76 (call : CallF) (N : Nat) (l : List NV) (h : H) : R :=
 uc l fun v0 l1 => un l1 (
 bK (eqI v0 (NV.int .i64 (.ofNat 112))) fun v2 =>
 jK (fun v3 h4 =>
 jK (fun v6 h7 =>
 bK (pickO v2 (NV.bool true) v6) fun v9 =>
 retC v9 h7) fun J8 => gK v2 false (
 bK (eqI v3 (NV.int .i64 (.ofNat 111))) fun v10 =>
 J8 v10 h4) (J8 (NV.tuple []) h4)) fun J5 => gK v2 false (
 J5 v0 h) (J5 (NV.tuple []) h))
theorem e76 : ikB Tryz.prog 6 Tryz.f76 = S76 := by kernel_rfl
theorem k76 (w0 : World) : SOK cW w0 76 S76 := okW Tryz.func76 (by kernel_rfl) e76
noncomputable def S77 (call : CallF) (N : Nat) (l : List NV) (h : H) : R :=
 uc l fun v0 l1 => uc l1 fun v2 l3 => un l3 (
 mK (boxM false v2 h) fun v4 h5 =>
 mK (calM call 63 [v0, (NV.func (.func 133) [] [v4])] h5) fun v6 h7 =>
 bK (notO v6) fun v8 =>
 retC v8 h7)
theorem e77 : ikB Tryz.prog 6 Tryz.f77 = S77 := by kernel_rfl
theorem k77 (w0 : World) : SOK cW w0 77 S77 := okW Tryz.func77 (by kernel_rfl) e77
noncomputable def S135 (call : CallF) (N : Nat) (l : List NV) (h : H) : R :=
 uc l fun v0 l1 => uc l1 fun v2 l3 => un l3 (
 mK (boxM false v0 h) fun v4 h5 =>
 bK (ldO 1 false h5 v2) fun v6 =>
 bK (ldO 2 true h5 v4) fun v7 =>
 mK (calV call v6 [v7] h5) fun v8 h9 =>
 bK (notO v8) fun v10 =>
 retC v10 h9)
theorem e135 : ikB Tryz.prog 6 Tryz.f135 = S135 := by kernel_rfl
theorem k135 (w0 : World) : SOK cW w0 135 S135 := okW Tryz.func135 (by kernel_rfl) e135
noncomputable def S134 (call : CallF) (N : Nat) (l : List NV) (h : H) : R :=
 uc l fun v0 l1 => uc l1 fun v2 l3 => un l3 (
 mK (calM call 171 [v0, v2] h) fun v4 h5 =>
 bK (geI v4 (NV.int .i64 (.ofNat 0))) fun v6 =>
 retC v6 h5)
theorem e134 : ikB Tryz.prog 6 Tryz.f134 = S134 := by kernel_rfl
theorem k134 (w0 : World) : SOK cW w0 134 S134 := okW Tryz.func134 (by kernel_rfl) e134
noncomputable def S137 (call : CallF) (N : Nat) (l : List NV) (h : H) : R :=
 uc l fun v0 l1 => uc l1 fun v2 l3 => un l3 (
 mK (boxM false v0 h) fun v4 h5 =>
 bK (ldO 1 false h5 v2) fun v6 =>
 bK (ldO 13 true h5 v4) fun v7 =>
 mK (calV call v6 [v7] h5) fun v8 h9 =>
 bK (notO v8) fun v10 =>
 retC v10 h9)
theorem e137 : ikB Tryz.prog 6 Tryz.f137 = S137 := by kernel_rfl
theorem k137 (w0 : World) : SOK cW w0 137 S137 := okW Tryz.func137 (by kernel_rfl) e137
noncomputable def S136 (call : CallF) (N : Nat) (l : List NV) (h : H) : R :=
 uc l fun v0 l1 => uc l1 fun v2 l3 => un l3 (
 mK (calM call 172 [v0, v2] h) fun v4 h5 =>
 bK (geI v4 (NV.int .i64 (.ofNat 0))) fun v6 =>
 retC v6 h5)
theorem e136 : ikB Tryz.prog 6 Tryz.f136 = S136 := by kernel_rfl
theorem k136 (w0 : World) : SOK cW w0 136 S136 := okW Tryz.func136 (by kernel_rfl) e136
noncomputable def S138 (call : CallF) (N : Nat) (l : List NV) (h : H) : R :=
 uc l fun v0 l1 => uc l1 fun v2 l3 => un l3 (
 mK (boxM false v0 h) fun v4 h5 =>
 bK (ldO 1 false h5 v2) fun v6 =>
 bK (ldO 3 true h5 v4) fun v7 =>
 mK (calV call v6 [v7] h5) fun v8 h9 =>
 bK (notO v8) fun v10 =>
 retC v10 h9)
theorem e138 : ikB Tryz.prog 6 Tryz.f138 = S138 := by kernel_rfl
theorem k138 (w0 : World) : SOK cW w0 138 S138 := okW Tryz.func138 (by kernel_rfl) e138
noncomputable def S140 (call : CallF) (N : Nat) (l : List NV) (h : H) : R :=
 uc l fun v0 l1 => uc l1 fun v2 l3 => un l3 (
 mK (boxM false v0 h) fun v4 h5 =>
 bK (ldO 1 false h5 v2) fun v6 =>
 bK (ldO 4 true h5 v4) fun v7 =>
 mK (calV call v6 [v7] h5) fun v8 h9 =>
 bK (notO v8) fun v10 =>
 retC v10 h9)
theorem e140 : ikB Tryz.prog 6 Tryz.f140 = S140 := by kernel_rfl
theorem k140 (w0 : World) : SOK cW w0 140 S140 := okW Tryz.func140 (by kernel_rfl) e140
noncomputable def S139 (call : CallF) (N : Nat) (l : List NV) (h : H) : R :=
 uc l fun v0 l1 => uc l1 fun v2 l3 => un l3 (
 mK (calM call 173 [v0, v2] h) fun v4 h5 =>
 bK (geI v4 (NV.int .i64 (.ofNat 0))) fun v6 =>
 retC v6 h5)
theorem e139 : ikB Tryz.prog 6 Tryz.f139 = S139 := by kernel_rfl
theorem k139 (w0 : World) : SOK cW w0 139 S139 := okW Tryz.func139 (by kernel_rfl) e139
noncomputable def S142 (call : CallF) (N : Nat) (l : List NV) (h : H) : R :=
 uc l fun v0 l1 => uc l1 fun v2 l3 => un l3 (
 mK (boxM false v0 h) fun v4 h5 =>
 bK (ldO 1 false h5 v2) fun v6 =>
 bK (ldO 3 true h5 v4) fun v7 =>
 mK (calV call v6 [v7] h5) fun v8 h9 =>
 bK (notO v8) fun v10 =>
 retC v10 h9)
theorem e142 : ikB Tryz.prog 6 Tryz.f142 = S142 := by kernel_rfl
theorem k142 (w0 : World) : SOK cW w0 142 S142 := okW Tryz.func142 (by kernel_rfl) e142
noncomputable def S141 (call : CallF) (N : Nat) (l : List NV) (h : H) : R :=
 uc l fun v0 l1 => uc l1 fun v2 l3 => un l3 (
 mK (calM call 174 [v0, v2] h) fun v4 h5 =>
 bK (geI v4 (NV.int .i64 (.ofNat 0))) fun v6 =>
 retC v6 h5)
theorem e141 : ikB Tryz.prog 6 Tryz.f141 = S141 := by kernel_rfl
theorem k141 (w0 : World) : SOK cW w0 141 S141 := okW Tryz.func141 (by kernel_rfl) e141
noncomputable def S143 (call : CallF) (N : Nat) (l : List NV) (h : H) : R :=
 uc l fun v0 l1 => uc l1 fun v2 l3 => un l3 (
 mK (boxM false v0 h) fun v4 h5 =>
 bK (ldO 1 false h5 v2) fun v6 =>
 bK (ldO 3 true h5 v4) fun v7 =>
 mK (calV call v6 [v7] h5) fun v8 h9 =>
 bK (notO v8) fun v10 =>
 retC v10 h9)
theorem e143 : ikB Tryz.prog 6 Tryz.f143 = S143 := by kernel_rfl
theorem k143 (w0 : World) : SOK cW w0 143 S143 := okW Tryz.func143 (by kernel_rfl) e143
noncomputable def S145 (call : CallF) (N : Nat) (l : List NV) (h : H) : R :=
 uc l fun v0 l1 => uc l1 fun v2 l3 => un l3 (
 mK (boxM false v0 h) fun v4 h5 =>
 bK (ldO 1 false h5 v2) fun v6 =>
 bK (ldO 3 true h5 v4) fun v7 =>
 mK (calV call v6 [v7] h5) fun v8 h9 =>
 bK (notO v8) fun v10 =>
 retC v10 h9)
theorem e145 : ikB Tryz.prog 6 Tryz.f145 = S145 := by kernel_rfl
theorem k145 (w0 : World) : SOK cW w0 145 S145 := okW Tryz.func145 (by kernel_rfl) e145
noncomputable def S144 (call : CallF) (N : Nat) (l : List NV) (h : H) : R :=
 uc l fun v0 l1 => uc l1 fun v2 l3 => un l3 (
 mK (calM call 175 [v0, v2] h) fun v4 h5 =>
 bK (geI v4 (NV.int .i64 (.ofNat 0))) fun v6 =>
 retC v6 h5)
theorem e144 : ikB Tryz.prog 6 Tryz.f144 = S144 := by kernel_rfl
theorem k144 (w0 : World) : SOK cW w0 144 S144 := okW Tryz.func144 (by kernel_rfl) e144
noncomputable def S146 (call : CallF) (N : Nat) (l : List NV) (h : H) : R :=
 uc l fun v0 l1 => uc l1 fun v2 l3 => un l3 (
 mK (boxM false v0 h) fun v4 h5 =>
 bK (ldO 1 false h5 v2) fun v6 =>
 bK (ldO 5 true h5 v4) fun v7 =>
 mK (calV call v6 [v7] h5) fun v8 h9 =>
 bK (notO v8) fun v10 =>
 retC v10 h9)
theorem e146 : ikB Tryz.prog 6 Tryz.f146 = S146 := by kernel_rfl
theorem k146 (w0 : World) : SOK cW w0 146 S146 := okW Tryz.func146 (by kernel_rfl) e146
noncomputable def S147 (call : CallF) (N : Nat) (l : List NV) (h : H) : R :=
 uc l fun v0 l1 => uc l1 fun v2 l3 => un l3 (
 mK (boxM false v0 h) fun v4 h5 =>
 bK (ldO 1 false h5 v2) fun v6 =>
 bK (ldO 4 true h5 v4) fun v7 =>
 mK (calV call v6 [v7] h5) fun v8 h9 =>
 bK (notO v8) fun v10 =>
 retC v10 h9)
theorem e147 : ikB Tryz.prog 6 Tryz.f147 = S147 := by kernel_rfl
theorem k147 (w0 : World) : SOK cW w0 147 S147 := okW Tryz.func147 (by kernel_rfl) e147
noncomputable def S148 (call : CallF) (N : Nat) (l : List NV) (h : H) : R :=
 uc l fun v0 l1 => un l1 (
 mK (boxM false v0 h) fun v2 h3 =>
 bK (fAddr 0 v2) fun v4 =>
 bK (ldO 1 false h3 v4) fun v5 =>
 mK (calM call 149 [v5] h3) fun v6 h7 =>
 bK (neI v6 (NV.int .i64 (.ofNat 17))) fun v8 =>
 jK (fun v9 h10 =>
 jK (fun v12 h13 =>
 jK (fun v15 h16 =>
 jK (fun v18 h19 =>
 bK (pickO v8 v18 (NV.bool false)) fun v21 =>
 retC v21 h19) fun J20 => gK v8 true (
 bK (neI v15 (NV.int .i64 (.ofNat 18))) fun v22 =>
 J20 v22 h16) (J20 (NV.tuple []) h16)) fun J17 => gK v8 true (
 mK (calM call 149 [v12] h13) fun v23 h24 =>
 J17 v23 h24) (J17 (NV.tuple []) h13)) fun J14 => gK v8 true (
 bK (ldO 1 false h10 v9) fun v25 =>
 J14 v25 h10) (J14 (NV.tuple []) h10)) fun J11 => gK v8 true (
 bK (fAddr 0 v2) fun v26 =>
 J11 v26 h7) (J11 (NV.tuple []) h7))
theorem e148 : ikB Tryz.prog 6 Tryz.f148 = S148 := by kernel_rfl
theorem k148 (w0 : World) : SOK cW w0 148 S148 := okW Tryz.func148 (by kernel_rfl) e148
noncomputable def S150 (call : CallF) (N : Nat) (l : List NV) (h : H) : R :=
 uc l fun v0 l1 => uc l1 fun v2 l3 => un l3 (
 mK (boxM false v0 h) fun v4 h5 =>
 bK (fAddr 2 v4) fun v6 =>
 bK (ldO 1 false h5 v6) fun v7 =>
 bK (ldO 1 false h5 v2) fun v8 =>
 mK (calM call 131 [v7, v8] h5) fun v9 h10 =>
 retC v9 h10)
theorem e150 : ikB Tryz.prog 6 Tryz.f150 = S150 := by kernel_rfl
theorem k150 (w0 : World) : SOK cW w0 150 S150 := okW Tryz.func150 (by kernel_rfl) e150
noncomputable def S152 (call : CallF) (N : Nat) (l : List NV) (h : H) : R :=
 uc l fun v0 l1 => uc l1 fun v2 l3 => un l3 (
 mK (calM call 177 [v0, v2] h) fun v4 h5 =>
 retC v4 h5)
theorem e152 : ikB Tryz.prog 6 Tryz.f152 = S152 := by kernel_rfl
theorem k152 (w0 : World) : SOK cW w0 152 S152 := okW Tryz.func152 (by kernel_rfl) e152
noncomputable def S153 (call : CallF) (N : Nat) (l : List NV) (h : H) : R :=
 uc l fun v0 l1 => un l1 (
 bK (binO .eql v0 (NV.str 0 0)) fun v2 =>
 condK v2 (
 retC (NV.tuple [(NV.str 0 0), (NV.int .i64 (.ofNat 0))]) h) (
 bK (ixStr v0 (NV.int .i64 (.ofNat 0))) fun v3 =>
 mK (calM call 99 [(NV.str 6 101323151404660), v3] h) fun v4 h5 =>
 bK (geI v4 (NV.int .i64 (.ofNat 0))) fun v6 =>
 condK v6 (
 bK (addI v4 (NV.int .i64 (.ofNat 1))) fun v7 =>
 bK (slStr (NV.str 6 101323144759817) (some v4) (some v7)) fun v8 =>
 retC (NV.tuple [v8, (NV.int .i64 (.ofNat 1))]) h5) (
 mK (calM call 178 [v0, (NV.str 2 31605)] h5) fun v9 h10 =>
 bK (extO 0 v9) fun v11 =>
 bK (extO 1 v9) fun v12 =>
 condK v12 (
 mK (calM call 179 [v11, (NV.str 1 125)] h10) fun v13 h14 =>
 bK (extO 0 v13) fun v15 =>
 bK (extO 1 v13) fun v16 =>
 bK (extO 2 v13) fun v17 =>
 bK (binO .add (NV.str 2 30768) v15) fun v18 =>
 mK (calM call 161 [(NV.int .i64 (.ofNat 64)), v18] h14) fun v19 h20 =>
 bK (extO 0 v19) fun v21 =>
 bK (extO 1 v19) fun v22 =>
 bK (notO v17) fun v23 =>
 jK (fun v24 h25 =>
 jK (fun v27 h28 =>
 bK (pickO v23 (NV.bool true) v27) fun v30 =>
 jK (fun v31 h32 =>
 jK (fun v34 h35 =>
 bK (pickO v30 (NV.bool true) v34) fun v37 =>
 jK (fun v38 h39 =>
 jK (fun v41 h42 =>
 jK (fun v44 h45 =>
 jK (fun v47 h48 =>
 jK (fun v50 h51 =>
 jK (fun v53 h54 =>
 bK (pickO v37 (NV.bool true) v53) fun v56 =>
 condK v56 (
 retC (NV.tuple [(NV.str 0 0), (NV.int .i64 (.ofNat 0))]) h54) (
 bK (cvI .i32 v21) fun v57 =>
 none /- convert -/)) fun J55 => gK v37 false (
 bK (pickO v44 v50 (NV.bool false)) fun v58 =>
 J55 v58 h51) (J55 (NV.tuple []) h51)) fun J52 => gK v44 true (
 bK (ltI v47 (NV.int .u64 (.ofNat 57344))) fun v59 =>
 J52 v59 h48) (J52 (NV.tuple []) h48)) fun J49 => gK v44 true (
 J49 v21 h45) (J49 (NV.tuple []) h45)) fun J46 => gK v37 false (
 J46 v41 h42) (J46 (NV.tuple []) h42)) fun J43 => gK v37 false (
 bK (geI v38 (NV.int .u64 (.ofNat 55296))) fun v60 =>
 J43 v60 h39) (J43 (NV.tuple []) h39)) fun J40 => gK v37 false (
 J40 v21 h35) (J40 (NV.tuple []) h35)) fun J36 => gK v30 false (
 bK (gtI v31 (NV.int .u64 (.ofNat 1114111))) fun v61 =>
 J36 v61 h32) (J36 (NV.tuple []) h32)) fun J33 => gK v30 false (
 J33 v21 h28) (J33 (NV.tuple []) h28)) fun J29 => gK v23 false (
 bK (notO v24) fun v62 =>
 J29 v62 h25) (J29 (NV.tuple []) h25)) fun J26 => gK v23 false (
 J26 v22 h20) (J26 (NV.tuple []) h20)) (
 bK (lenStr v0) fun v63 =>
 bK (ltI v63 (NV.int .i64 (.ofNat 2))) fun v64 =>
 jK (fun v65 h66 =>
 jK (fun v68 h69 =>
 jK (fun v71 h72 =>
 bK (pickO v64 (NV.bool true) v71) fun v74 =>
 condK v74 (
 retC (NV.tuple [(NV.str 0 0), (NV.int .i64 (.ofNat 0))]) h72) (
 bK (slStr v0 none (some (NV.int .i64 (.ofNat 2)))) fun v75 =>
 bK (binO .add (NV.str 2 30768) v75) fun v76 =>
 mK (calM call 161 [(NV.int .i64 (.ofNat 8)), v76] h72) fun v77 h78 =>
 bK (extO 0 v77) fun v79 =>
 bK (extO 1 v77) fun v80 =>
 bK (notO v80) fun v81 =>
 condK v81 (
 retC (NV.tuple [(NV.str 0 0), (NV.int .i64 (.ofNat 0))]) h78) (
 bK (cvI .u8 v79) fun v82 =>
 mK (bslM 1 true [(0, 1)] [(NV.int .u8 (.ofNat 0))] [v82] h78) fun v83 h84 =>
 bK (b2s h84 v83) fun v85 =>
 retC (NV.tuple [v85, (NV.int .i64 (.ofNat 2))]) h84))) fun J73 => gK v64 false (
 bK (eqI v68 (NV.int .u8 (.ofNat 95))) fun v86 =>
 J73 v86 h69) (J73 (NV.tuple []) h69)) fun J70 => gK v64 false (
 bK (ixStr v65 (NV.int .i64 (.ofNat 1))) fun v87 =>
 J70 v87 h66) (J70 (NV.tuple []) h66)) fun J67 => gK v64 false (
 J67 v0 h10) (J67 (NV.tuple []) h10)))))
theorem e153 : ikB Tryz.prog 6 Tryz.f153 = S153 := by kernel_rfl
theorem k153 (w0 : World) : SOK cW w0 153 S153 := okW Tryz.func153 (by kernel_rfl) e153
noncomputable def S154 (call : CallF) (N : Nat) (l : List NV) (h : H) : R :=
 uc l fun v0 l1 => un l1 (
 mK (calM call 112 [v0] h) fun v2 h3 =>
 mK (calM call 107 [v2] h3) fun v4 h5 =>
 bK (extO 0 v4) fun v6 =>
 bK (extO 1 v4) fun v7 =>
 condK v7 (
 retC v6 h5) (
 mK (bslM 5 false [(0, 1), (1, 1), (2, 1), (3, 1), (4, 1)] [(NV.str 0 0), (NV.str 0 0), (NV.str 0 0), (NV.str 0 0), (NV.str 0 0)] [(NV.str 3 3289961), (NV.str 3 3421801), (NV.str 3 3289958), (NV.str 3 3421798), (NV.str 4 942813558)] h5) fun v8 h9 =>
 mK (calM call 106 [v8, v2] h9) fun v10 h11 =>
 bK (nilO v0) fun v12 =>
 bK (fAddr 0 v12) fun v13 =>
 bK (ldO 1 false h11 v13) fun v14 =>
 bK (geI v10 (NV.int .i64 (.ofNat 0))) fun v15 =>
 mK (calM call 31 [v14, v15] h11) fun v16 h17 =>
 bK (foldMM true v10 [(NV.int .i64 (.ofNat 0))]) fun v18 =>
 bK (subI (NV.int .i64 (.ofNat 127)) v18) fun v19 =>
 retC v19 h17))
theorem e154 : ikB Tryz.prog 6 Tryz.f154 = S154 := by kernel_rfl
theorem k154 (w0 : World) : SOK cW w0 154 S154 := okW Tryz.func154 (by kernel_rfl) e154
noncomputable def S155 (call : CallF) (N : Nat) (l : List NV) (h : H) : R :=
 uc l fun v0 l1 => uc l1 fun v2 l3 => un l3 (
 mK (boxM false v2 h) fun v4 h5 =>
 bK (nilO v0) fun v6 =>
 bK (fAddr 0 v6) fun v7 =>
 bK (fAddr 0 v7) fun v8 =>
 bK (ldO 1 false h5 v8) fun v9 =>
 mK (calM call 171 [v9, (NV.func (.func 180) [] [v4])] h5) fun v10 h11 =>
 bK (ltI v10 (NV.int .i64 (.ofNat 0))) fun v12 =>
 joinC 1 (fun v13 h14 =>
 retC v13 h14) fun J15 =>
 condK v12 (
 bK (nilO v0) fun v16 =>
 bK (fAddr 0 v16) fun v17 =>
 bK (fAddr 0 v17) fun v18 =>
 bK (ldO 1 false h11 v18) fun v19 =>
 bK (lenSl v19) fun v20 =>
 bK (nilO v0) fun v21 =>
 bK (fAddr 0 v21) fun v22 =>
 bK (fAddr 0 v22) fun v23 =>
 bK (ldO 1 false h11 (chkV h11 v23)) fun v24 =>
 bK (ldO 2 true h11 (chkV h11 v4)) fun v25 =>
 mK (bslM 1 false [(0, 2)] [NV.nslice, NV.nslice] [(chkV h11 v25)] h11) fun v26 h27 =>
 mK (appM Tryz.prog 71 (chkV h27 v24) (chkV h27 v26) h27) fun v28 h29 =>
 nextK h27 h29 (
 bK (nilO v0) fun v30 =>
 bK (fAddr 0 v30) fun v31 =>
 bK (fAddr 0 v31) fun v32 =>
 mK (stM 1 (chkV h29 v32) (chkV h29 v28) h29) fun v33 h34 =>
 nextK h29 h34 (
 J15 v20 h34))) (
 J15 v10 h11))
theorem e155 : ikB Tryz.prog 6 Tryz.f155 = S155 := by kernel_rfl
theorem k155 (w0 : World) : SOK cW w0 155 S155 := okW Tryz.func155 (by kernel_rfl) e155
noncomputable def S156 (call : CallF) (N : Nat) (l : List NV) (h : H) : R :=
 uc l fun v0 l1 => uc l1 fun v2 l3 => un l3 (
 mK (boxM false v0 h) fun v4 h5 =>
 mK (boxM false v2 h5) fun v6 h7 =>
 bK (fAddr 0 v4) fun v8 =>
 bK (ldO 1 false h7 v8) fun v9 =>
 bK (fAddr 0 v6) fun v10 =>
 bK (ldO 1 false h7 v10) fun v11 =>
 mK (calM call 181 [v9, v11] h7) fun v12 h13 =>
 jK (fun v14 h15 =>
 jK (fun v17 h18 =>
 jK (fun v20 h21 =>
 jK (fun v23 h24 =>
 jK (fun v26 h27 =>
 bK (pickO v12 v26 (NV.bool false)) fun v29 =>
 retC v29 h27) fun J28 => gK v12 true (
 mK (calM call 181 [v17, v23] h24) fun v30 h31 =>
 J28 v30 h31) (J28 (NV.tuple []) h24)) fun J25 => gK v12 true (
 bK (ldO 1 false h21 v20) fun v32 =>
 J25 v32 h21) (J25 (NV.tuple []) h21)) fun J22 => gK v12 true (
 bK (fAddr 1 v6) fun v33 =>
 J22 v33 h18) (J22 (NV.tuple []) h18)) fun J19 => gK v12 true (
 bK (ldO 1 false h15 v14) fun v34 =>
 J19 v34 h15) (J19 (NV.tuple []) h15)) fun J16 => gK v12 true (
 bK (fAddr 1 v4) fun v35 =>
 J16 v35 h13) (J16 (NV.tuple []) h13))
theorem e156 : ikB Tryz.prog 6 Tryz.f156 = S156 := by kernel_rfl
theorem k156 (w0 : World) : SOK cW w0 156 S156 := okW Tryz.func156 (by kernel_rfl) e156
noncomputable def S157 (call : CallF) (N : Nat) (l : List NV) (h : H) : R :=
 uc l fun v0 l1 => un l1 (
 mK (calM call 112 [v0] h) fun v2 h3 =>
 mK (calM call 107 [v2] h3) fun v4 h5 =>
 bK (extO 0 v4) fun v6 =>
 bK (extO 1 v4) fun v7 =>
 bK (nilO v0) fun v8 =>
 bK (fAddr 0 v8) fun v9 =>
 bK (ldO 1 false h5 v9) fun v10 =>
 mK (calM call 31 [v10, v7] h5) fun v11 h12 =>
 retC v6 h12)
theorem e157 : ikB Tryz.prog 6 Tryz.f157 = S157 := by kernel_rfl
theorem k157 (w0 : World) : SOK cW w0 157 S157 := okW Tryz.func157 (by kernel_rfl) e157
noncomputable def S158 (call : CallF) (N : Nat) (l : List NV) (h : H) : R :=
 uc l fun v0 l1 => uc l1 fun v2 l3 => un l3 (
 bK (nilO v0) fun v4 =>
 bK (fAddr 0 v4) fun v5 =>
 bK (ldO 1 false h (chkV h v5)) fun v6 =>
 mK (calM call 112 [(chkV h v0)] h) fun v7 h8 =>
 nextK h h8 (
 bK (ldO 1 false h8 (chkV h8 v5)) fun v9 =>
 sameK v9 v6 (
 mK (calM call 114 [(chkV h8 v6), (chkV h8 v7), (chkV h8 v2)] h8) fun v10 h11 =>
 nextK h8 h11 (
 retC v10 h11))))
theorem e158 : ikB Tryz.prog 6 Tryz.f158 = S158 := by kernel_rfl
theorem k158 (w0 : World) : SOK cW w0 158 S158 := okW Tryz.func158 (by kernel_rfl) e158
noncomputable def S159 (call : CallF) (N : Nat) (l : List NV) (h : H) : R :=
 uc l fun v0 l1 => un l1 (
 bK (binO .neq v0 (NV.str 0 0)) fun v2 =>
 jK (fun v3 h4 =>
 jK (fun v6 h7 =>
 jK (fun v9 h10 =>
 bK (pickO v2 v9 (NV.bool false)) fun v12 =>
 jK (fun v13 h14 =>
 jK (fun v16 h17 =>
 jK (fun v19 h20 =>
 bK (pickO v12 v19 (NV.bool false)) fun v22 =>
 retC v22 h20) fun J21 => gK v12 true (
 bK (leI v16 (NV.int .u8 (.ofNat 57))) fun v23 =>
 J21 v23 h17) (J21 (NV.tuple []) h17)) fun J18 => gK v12 true (
 bK (ixStr v13 (NV.int .i64 (.ofNat 0))) fun v24 =>
 J18 v24 h14) (J18 (NV.tuple []) h14)) fun J15 => gK v12 true (
 J15 v0 h10) (J15 (NV.tuple []) h10)) fun J11 => gK v2 true (
 bK (geI v6 (NV.int .u8 (.ofNat 48))) fun v25 =>
 J11 v25 h7) (J11 (NV.tuple []) h7)) fun J8 => gK v2 true (
 bK (ixStr v3 (NV.int .i64 (.ofNat 0))) fun v26 =>
 J8 v26 h4) (J8 (NV.tuple []) h4)) fun J5 => gK v2 true (
 J5 v0 h) (J5 (NV.tuple []) h))
theorem e159 : ikB Tryz.prog 6 Tryz.f159 = S159 := by kernel_rfl
theorem k159 (w0 : World) : SOK cW w0 159 S159 := okW Tryz.func159 (by kernel_rfl) e159
noncomputable def S160 (call : CallF) (N : Nat) (l : List NV) (h : H) : R :=
 uc l fun v0 l1 => uc l1 fun v2 l3 => un l3 (
 bK (lenStr v0) fun v4 =>
 bK (lenStr v2) fun v5 =>
 bK (geI v4 v5) fun v6 =>
 jK (fun v7 h8 =>
 jK (fun v10 h11 =>
 jK (fun v13 h14 =>
 jK (fun v16 h17 =>
 jK (fun v19 h20 =>
 jK (fun v22 h23 =>
 bK (pickO v6 v22 (NV.bool false)) fun v25 =>
 retC v25 h23) fun J24 => gK v6 true (
 bK (binO .eql v16 v19) fun v26 =>
 J24 v26 h20) (J24 (NV.tuple []) h20)) fun J21 => gK v6 true (
 J21 v2 h17) (J21 (NV.tuple []) h17)) fun J18 => gK v6 true (
 bK (slStr v7 none (some v13)) fun v27 =>
 J18 v27 h14) (J18 (NV.tuple []) h14)) fun J15 => gK v6 true (
 bK (lenStr v10) fun v28 =>
 J15 v28 h11) (J15 (NV.tuple []) h11)) fun J12 => gK v6 true (
 J12 v2 h8) (J12 (NV.tuple []) h8)) fun J9 => gK v6 true (
 J9 v0 h) (J9 (NV.tuple []) h))
theorem e160 : ikB Tryz.prog 6 Tryz.f160 = S160 := by kernel_rfl
theorem k160 (w0 : World) : SOK cW w0 160 S160 := okW Tryz.func160 (by kernel_rfl) e160
noncomputable def S161 (call : CallF) (N : Nat) (l : List NV) (h : H) : R :=
 uc l fun v0 l1 => uc l1 fun v2 l3 => un l3 (
 mK (calM call 182 [v2] h) fun v4 h5 =>
 bK (extO 0 v4) fun v6 =>
 bK (extO 1 v4) fun v7 =>
 mK (calM call 178 [v7, (NV.str 2 30768)] h5) fun v8 h9 =>
 bK (extO 0 v8) fun v10 =>
 bK (extO 1 v8) fun v11 =>
 mK (calM call 183 [v10, v11] h9) fun v12 h13 =>
 bK (extO 0 v12) fun v14 =>
 bK (extO 1 v12) fun v15 =>
 joinC 5 (fun v16 v17 v18 v19 v20 h21 =>
 mK (calM call 184 [v18, v20] h21) fun v23 h24 =>
 bK (extO 0 v23) fun v25 =>
 bK (extO 1 v23) fun v26 =>
 bK (neI v16 (NV.int .i64 (.ofNat 8))) fun v27 =>
 jK (fun v28 h29 =>
 jK (fun v31 h32 =>
 bK (pickO v27 v31 (NV.bool false)) fun v34 =>
 jK (fun v35 h36 =>
 jK (fun v38 h39 =>
 bK (pickO v34 v38 (NV.bool false)) fun v41 =>
 jK (fun v42 h43 =>
 jK (fun v45 h46 =>
 bK (pickO v41 v45 (NV.bool false)) fun v48 =>
 jK (fun v49 h50 =>
 jK (fun v52 h53 =>
 bK (pickO v48 (NV.bool true) v52) fun v55 =>
 jK (fun v56 h57 =>
 jK (fun v59 h60 =>
 bK (pickO v55 (NV.bool true) v59) fun v62 =>
 condK v62 (
 retC (NV.tuple [(NV.int .u64 (.ofNat 0)), (NV.bool false)]) h60) (
 bK (subI (NV.int .i64 (.ofNat 64)) v16) fun v63 =>
 bK (cvI .u64 v63) fun v64 =>
 bK (binO .shr (NV.int .u64 (.ofNat 18446744073709551615)) v64) fun v65 =>
 jK (fun v66 h67 =>
 jK (fun v69 h70 =>
 jK (fun v72 h73 =>
 jK (fun v75 h76 =>
 jK (fun v78 h79 =>
 bK (pickO v17 v78 (NV.bool false)) fun v81 =>
 jK (fun v82 h83 =>
 jK (fun v85 h86 =>
 jK (fun v88 h89 =>
 bK (pickO v81 (NV.bool true) v88) fun v91 =>
 condK v91 (
 retC (NV.tuple [(NV.int .u64 (.ofNat 0)), (NV.bool false)]) h89) (
 joinC 1 (fun v92 h93 =>
 retC (NV.tuple [v92, (NV.bool true)]) h93) fun J94 =>
 condK v17 (
 bK (unO .neg v25) fun v95 =>
 bK (binO .and v95 v65) fun v96 =>
 J94 v96 h89) (
 J94 v25 h89))) fun J90 => gK v81 false (
 bK (gtI v82 v85) fun v97 =>
 J90 v97 h86) (J90 (NV.tuple []) h86)) fun J87 => gK v81 false (
 J87 v65 h83) (J87 (NV.tuple []) h83)) fun J84 => gK v81 false (
 J84 v25 h79) (J84 (NV.tuple []) h79)) fun J80 => gK v17 true (
 bK (gtI v66 v75) fun v98 =>
 J80 v98 h76) (J80 (NV.tuple []) h76)) fun J77 => gK v17 true (
 bK (addI v72 (NV.int .u64 (.ofNat 1))) fun v99 =>
 J77 v99 h73) (J77 (NV.tuple []) h73)) fun J74 => gK v17 true (
 bK (binO .quo v69 (NV.int .u64 (.ofNat 2))) fun v100 =>
 J74 v100 h70) (J74 (NV.tuple []) h70)) fun J71 => gK v17 true (
 J71 v65 h67) (J71 (NV.tuple []) h67)) fun J68 => gK v17 true (
 J68 v25 h60) (J68 (NV.tuple []) h60))) fun J61 => gK v55 false (
 bK (notO v56) fun v101 =>
 J61 v101 h57) (J61 (NV.tuple []) h57)) fun J58 => gK v55 false (
 J58 v26 h53) (J58 (NV.tuple []) h53)) fun J54 => gK v48 false (
 bK (notO v49) fun v102 =>
 J54 v102 h50) (J54 (NV.tuple []) h50)) fun J51 => gK v48 false (
 J51 v19 h46) (J51 (NV.tuple []) h46)) fun J47 => gK v41 true (
 bK (neI v42 (NV.int .i64 (.ofNat 64))) fun v103 =>
 J47 v103 h43) (J47 (NV.tuple []) h43)) fun J44 => gK v41 true (
 J44 v16 h39) (J44 (NV.tuple []) h39)) fun J40 => gK v34 true (
 bK (neI v35 (NV.int .i64 (.ofNat 32))) fun v104 =>
 J40 v104 h36) (J40 (NV.tuple []) h36)) fun J37 => gK v34 true (
 J37 v16 h32) (J37 (NV.tuple []) h32)) fun J33 => gK v27 true (
 bK (neI v28 (NV.int .i64 (.ofNat 16))) fun v105 =>
 J33 v105 h29) (J33 (NV.tuple []) h29)) fun J30 => gK v27 true (
 J30 v16 h24) (J30 (NV.tuple []) h24)) fun J22 =>
 condK v11 (
 J22 v0 v6 v14 v15 (NV.int .u64 (.ofNat 16)) h13) (
 J22 v0 v6 v14 v15 (NV.int .u64 (.ofNat 10)) h13))
theorem e161 : ikB Tryz.prog 6 Tryz.f161 = S161 := by kernel_rfl
theorem k161 (w0 : World) : SOK cW w0 161 S161 := okW Tryz.func161 (by kernel_rfl) e161
noncomputable def S162 (call : CallF) (N : Nat) (l : List NV) (h : H) : R :=
 uc l fun v0 l1 => uc l1 fun v2 l3 => uc l3 fun v4 l5 => uc l5 fun v6 l7 => un l7 (
 bK (binO .neq v2 (NV.str 0 0)) fun v8 =>
 condK v8 (
 bK (ldO 1 false h v4) fun v9 =>
 bK (nilO v9) fun v10 =>
 bK (fAddr 1 v10) fun v11 =>
 bK (ldO 1 false h v11) fun v12 =>
 bK (lookO Tryz.prog 9 (NV.int .i64 (.ofNat 0)) true h v12 v2) fun v13 =>
 bK (extO 0 v13) fun v14 =>
 bK (extO 1 v13) fun v15 =>
 bK (ldO 1 false h v6) fun v16 =>
 bK (nilO v16) fun v17 =>
 bK (fAddr 0 v17) fun v18 =>
 bK (ldO 1 false h v18) fun v19 =>
 bK (notO v15) fun v20 =>
 mK (calM call 31 [v19, v20] h) fun v21 h22 =>
 bK (ldO 1 false h22 v4) fun v23 =>
 bK (nilO v23) fun v24 =>
 bK (fAddr 1 v24) fun v25 =>
 bK (ldO 1 false h22 v25) fun v26 =>
 mK (updM Tryz.prog 58 v26 v2 v0 h22) fun v27 h28 =>
 retC (NV.tuple []) h28) (
 retC (NV.tuple []) h))
theorem e162 : ikB Tryz.prog 6 Tryz.f162 = S162 := by kernel_rfl
theorem k162 (w0 : World) : SOK cW w0 162 S162 := okW Tryz.func162 (by kernel_rfl) e162
noncomputable def S163 (call : CallF) (N : Nat) (l : List NV) (h : H) : R :=
 uc l fun v0 l1 => un l1 (
 mK (calM call 30 [v0] h) fun v2 h3 =>
 mK (calM call 159 [v2] h3) fun v4 h5 =>
 jK (fun v6 h7 =>
 jK (fun v9 h10 =>
 jK (fun v12 h13 =>
 bK (pickO v4 (NV.bool true) v12) fun v15 =>
 retC v15 h13) fun J14 => gK v4 false (
 mK (calM call 113 [v9, (NV.str 1 36)] h10) fun v16 h17 =>
 J14 v16 h17) (J14 (NV.tuple []) h10)) fun J11 => gK v4 false (
 mK (calM call 30 [v6] h7) fun v18 h19 =>
 J11 v18 h19) (J11 (NV.tuple []) h7)) fun J8 => gK v4 false (
 J8 v0 h5) (J8 (NV.tuple []) h5))
theorem e163 : ikB Tryz.prog 6 Tryz.f163 = S163 := by kernel_rfl
theorem k163 (w0 : World) : SOK cW w0 163 S163 := okW Tryz.func163 (by kernel_rfl) e163
noncomputable def S164 (call : CallF) (N : Nat) (l : List NV) (h : H) : R :=
 uc l fun v0 l1 => uc l1 fun v2 l3 => un l3 (
 joinC 1 (fun v4 h5 =>
 retC v4 h5) fun J6 =>
 loopC N 3 (fun L11 v7 v8 v9 h10 =>
 bK (nilO v8) fun v12 =>
 bK (fAddr 1 v12) fun v13 =>
 bK (ldO 1 false h10 v13) fun v14 =>
 bK (lenSl v14) fun v15 =>
 bK (gtI v15 (NV.int .i64 (.ofNat 0))) fun v16 =>
 jK (fun v17 h18 =>
 jK (fun v20 h21 =>
 jK (fun v23 h24 =>
 jK (fun v26 h27 =>
 jK (fun v29 h30 =>
 jK (fun v32 h33 =>
 jK (fun v35 h36 =>
 jK (fun v38 h39 =>
 bK (pickO v16 v38 (NV.bool false)) fun v41 =>
 condK v41 (
 mK (calM call 30 [v8] h39) fun v42 h43 =>
 bK (binO .eql v42 (NV.str 3 6581861)) fun v44 =>
 jK (fun v45 h46 =>
 jK (fun v48 h49 =>
 bK (pickO v44 (NV.bool true) v48) fun v51 =>
 condK v51 (
 retC v9 h49) (
 bK (binO .neq v42 (NV.str 0 0)) fun v52 =>
 condK v52 (
 mK (calM call 112 [v8] h49) fun v53 h54 =>
 mK (calM call 185 [v7, v8, v42] h54) fun v55 h56 =>
 mK (bslM 1 false [(0, 9)] [(NV.int .i64 (.ofNat 0)), (NV.int .i64 (.ofNat 0)), (NV.int .i64 (.ofNat 0)), (NV.int .u64 (.ofNat 0)), (NV.int .u64 (.ofNat 0)), NV.nslice, NV.nslice, NV.nslice, (NV.bool false)] [v55] h56) fun v57 h58 =>
 mK (appM Tryz.prog 49 v9 v57 h58) fun v59 h60 =>
 L11 v7 v8 v59 h60) (
 mK (calM call 186 [v7, v8] h49) fun v61 h62 =>
 mK (appM Tryz.prog 49 v9 v61 h62) fun v63 h64 =>
 L11 v7 v8 v63 h64))) fun J50 => gK v44 false (
 bK (binO .eql v45 (NV.str 4 1702063205)) fun v65 =>
 J50 v65 h46) (J50 (NV.tuple []) h46)) fun J47 => gK v44 false (
 J47 v42 h43) (J47 (NV.tuple []) h43)) (
 J6 v9 h39)) fun J40 => gK v16 true (
 bK (notO v35) fun v66 =>
 J40 v66 h36) (J40 (NV.tuple []) h36)) fun J37 => gK v16 true (
 bK (ldO 1 false h33 v32) fun v67 =>
 J37 v67 h33) (J37 (NV.tuple []) h33)) fun J34 => gK v16 true (
 bK (fAddr 26 v29) fun v68 =>
 J34 v68 h30) (J34 (NV.tuple []) h30)) fun J31 => gK v16 true (
 bK (nilO v26) fun v69 =>
 J31 v69 h27) (J31 (NV.tuple []) h27)) fun J28 => gK v16 true (
 bK (ldO 1 false h24 v23) fun v70 =>
 J28 v70 h24) (J28 (NV.tuple []) h24)) fun J25 => gK v16 true (
 bK (fAddr 0 v20) fun v71 =>
 J25 v71 h21) (J25 (NV.tuple []) h21)) fun J22 => gK v16 true (
 bK (nilO v17) fun v72 =>
 J22 v72 h18) (J22 (NV.tuple []) h18)) fun J19 => gK v16 true (
 J19 v8 h10) (J19 (NV.tuple []) h10)) v0 v2 NV.nslice h)
theorem e164 : ikB Tryz.prog 6 Tryz.f164 = S164 := by kernel_rfl
theorem k164 (w0 : World) : SOK cW w0 164 S164 := okW Tryz.func164 (by kernel_rfl) e164
noncomputable def S127 (call : CallF) (N : Nat) (l : List NV) (h : H) : R :=
 uc l fun v0 l1 => uc l1 fun v2 l3 => un l3 (
 bK (lenSl v0) fun v4 =>
 joinC 0 (fun h5 =>
 retC (NV.int .i64 (.negSucc 0)) h5) fun J6 =>
 loopC N 4 (fun L12 v7 v8 v9 v10 h11 =>
 bK (ltI v10 v9) fun v13 =>
 condK v13 (
 bK (ixS 1 v7 v10) fun v14 =>
 bK (ldO 1 false h11 v14) fun v15 =>
 mK (calV call v8 [v15] h11) fun v16 h17 =>
 condK v16 (
 retC v10 h17) (
 bK (addI v10 (NV.int .i64 (.ofNat 1))) fun v18 =>
 L12 v7 v8 v9 v18 h17)) (
 J6 h11)) v0 v2 v4 (NV.int .i64 (.ofNat 0)) h)
theorem e127 : ikB Tryz.prog 6 Tryz.f127 = S127 := by kernel_rfl
theorem k127 (w0 : World) : SOK cW w0 127 S127 := okW Tryz.func127 (by kernel_rfl) e127
noncomputable def S130 (call : CallF) (N : Nat) (l : List NV) (h : H) : R :=
 uc l fun v0 l1 => uc l1 fun v2 l3 => un l3 (
 bK (ldO 1 false h v2) fun v4 =>
 mK (calV call v4 [v0] h) fun v5 h6 =>
 bK (notO v5) fun v7 =>
 retC v7 h6)
theorem e130 : ikB Tryz.prog 6 Tryz.f130 = S130 := by kernel_rfl
theorem k130 (w0 : World) : SOK cW w0 130 S130 := okW Tryz.func130 (by kernel_rfl) e130
noncomputable def S129 (call : CallF) (N : Nat) (l : List NV) (h : H) : R :=
 uc l fun v0 l1 => uc l1 fun v2 l3 => un l3 (
 mK (calM call 165 [v0, v2] h) fun v4 h5 =>
 bK (geI v4 (NV.int .i64 (.ofNat 0))) fun v6 =>
 retC v6 h5)
theorem e129 : ikB Tryz.prog 6 Tryz.f129 = S129 := by kernel_rfl
theorem k129 (w0 : World) : SOK cW w0 129 S129 := okW Tryz.func129 (by kernel_rfl) e129
noncomputable def S131 (call : CallF) (N : Nat) (l : List NV) (h : H) : R :=
 uc l fun v0 l1 => uc l1 fun v2 l3 => un l3 (
 mK (boxM false v2 h) fun v4 h5 =>
 mK (calM call 166 [v0, (NV.func (.func 167) [] [v4])] h5) fun v6 h7 =>
 retC v6 h7)
theorem e131 : ikB Tryz.prog 6 Tryz.f131 = S131 := by kernel_rfl
theorem k131 (w0 : World) : SOK cW w0 131 S131 := okW Tryz.func131 (by kernel_rfl) e131
noncomputable def S132 (call : CallF) (N : Nat) (l : List NV) (h : H) : R :=
 uc l fun v0 l1 => un l1 (
 mK (boxM false v0 h) fun v2 h3 =>
 bK (fAddr 0 v2) fun v4 =>
 bK (ldO 1 false h3 v4) fun v5 =>
 mK (calM call 168 [v5] h3) fun v6 h7 =>
 bK (notO v6) fun v8 =>
 condK v8 (
 retC (NV.bool false) h7) (
 bK (fAddr 0 v2) fun v9 =>
 bK (ldO 1 false h7 v9) fun v10 =>
 mK (calM call 149 [v10] h7) fun v11 h12 =>
 bK (eqI v11 (NV.int .i64 (.ofNat 1))) fun v13 =>
 condK v13 (
 bK (fAddr 1 v2) fun v14 =>
 bK (ldO 1 false h12 v14) fun v15 =>
 bK (eqI v15 (NV.int .i64 (.ofNat 0))) fun v16 =>
 jK (fun v17 h18 =>
 jK (fun v20 h21 =>
 jK (fun v23 h24 =>
 bK (pickO v16 v23 (NV.bool false)) fun v26 =>
 jK (fun v27 h28 =>
 jK (fun v30 h31 =>
 jK (fun v33 h34 =>
 jK (fun v36 h37 =>
 jK (fun v39 h40 =>
 jK (fun v42 h43 =>
 jK (fun v45 h46 =>
 jK (fun v48 h49 =>
 bK (pickO v26 (NV.bool true) v48) fun v51 =>
 jK (fun v52 h53 =>
 jK (fun v55 h56 =>
 jK (fun v58 h59 =>
 jK (fun v61 h62 =>
 jK (fun v64 h65 =>
 jK (fun v67 h68 =>
 jK (fun v70 h71 =>
 jK (fun v73 h74 =>
 bK (pickO v51 (NV.bool true) v73) fun v76 =>
 jK (fun v77 h78 =>
 jK (fun v80 h81 =>
 jK (fun v83 h84 =>
 bK (pickO v76 v83 (NV.bool false)) fun v86 =>
 jK (fun v87 h88 =>
 jK (fun v90 h91 =>
 jK (fun v93 h94 =>
 jK (fun v96 h97 =>
 jK (fun v99 h100 =>
 jK (fun v102 h103 =>
 jK (fun v105 h106 =>
 jK (fun v108 h109 =>
 bK (pickO v86 v108 (NV.bool false)) fun v111 =>
 jK (fun v112 h113 =>
 jK (fun v115 h116 =>
 jK (fun v118 h119 =>
 jK (fun v121 h122 =>
 jK (fun v124 h125 =>
 jK (fun v127 h128 =>
 jK (fun v130 h131 =>
 jK (fun v133 h134 =>
 bK (pickO v111 v133 (NV.bool false)) fun v136 =>
 retC v136 h134) fun J135 => gK v111 true (
 bK (pickO v118 (NV.bool true) v130) fun v137 =>
 J135 v137 h131) (J135 (NV.tuple []) h131)) fun J132 => gK v118 false (
 bK (eqI v127 (NV.int .i64 (.ofNat 0))) fun v138 =>
 J132 v138 h128) (J132 (NV.tuple []) h128)) fun J129 => gK v118 false (
 bK (lenSl v124) fun v139 =>
 J129 v139 h125) (J129 (NV.tuple []) h125)) fun J126 => gK v118 false (
 bK (ldO 1 false h122 v121) fun v140 =>
 J126 v140 h122) (J126 (NV.tuple []) h122)) fun J123 => gK v118 false (
 bK (fAddr 7 v2) fun v141 =>
 J123 v141 h119) (J123 (NV.tuple []) h119)) fun J120 => gK v111 true (
 J120 v115 h116) (J120 (NV.tuple []) h116)) fun J117 => gK v111 true (
 bK (ldO 1 false h113 v112) fun v142 =>
 J117 v142 h113) (J117 (NV.tuple []) h113)) fun J114 => gK v111 true (
 bK (fAddr 8 v2) fun v143 =>
 J114 v143 h109) (J114 (NV.tuple []) h109)) fun J110 => gK v86 true (
 bK (pickO v96 (NV.bool true) v105) fun v144 =>
 J110 v144 h106) (J110 (NV.tuple []) h106)) fun J107 => gK v96 false (
 bK (notO v102) fun v145 =>
 J107 v145 h103) (J107 (NV.tuple []) h103)) fun J104 => gK v96 false (
 bK (ldO 1 false h100 v99) fun v146 =>
 J104 v146 h100) (J104 (NV.tuple []) h100)) fun J101 => gK v96 false (
 bK (fAddr 8 v2) fun v147 =>
 J101 v147 h97) (J101 (NV.tuple []) h97)) fun J98 => gK v86 true (
 J98 v93 h94) (J98 (NV.tuple []) h94)) fun J95 => gK v86 true (
 bK (eqI v90 (NV.int .i64 (.ofNat 4))) fun v148 =>
 J95 v148 h91) (J95 (NV.tuple []) h91)) fun J92 => gK v86 true (
 bK (ldO 1 false h88 v87) fun v149 =>
 J92 v149 h88) (J92 (NV.tuple []) h88)) fun J89 => gK v86 true (
 bK (fAddr 0 v2) fun v150 =>
 J89 v150 h84) (J89 (NV.tuple []) h84)) fun J85 => gK v76 true (
 mK (calM call 169 [v77, v80] h81) fun v151 h152 =>
 J85 v151 h152) (J85 (NV.tuple []) h81)) fun J82 => gK v76 true (
 bK (bldO [(0, 1), (1, 1)] [(NV.bool false), (NV.bool false), (NV.bool false), (NV.bool false), (NV.bool false)] [(NV.bool true), (NV.bool true)]) fun v153 =>
 J82 v153 h78) (J82 (NV.tuple []) h78)) fun J79 => gK v76 true (
 bK (ldO 9 true h74 v2) fun v154 =>
 J79 v154 h74) (J79 (NV.tuple []) h74)) fun J75 => gK v51 false (
 bK (pickO v61 v70 (NV.bool false)) fun v155 =>
 J75 v155 h71) (J75 (NV.tuple []) h71)) fun J72 => gK v61 true (
 mK (calM call 70 [v67] h68) fun v156 h157 =>
 J72 v156 h157) (J72 (NV.tuple []) h68)) fun J69 => gK v61 true (
 bK (ldO 1 false h65 v64) fun v158 =>
 J69 v158 h65) (J69 (NV.tuple []) h65)) fun J66 => gK v61 true (
 bK (fAddr 2 v2) fun v159 =>
 J66 v159 h62) (J66 (NV.tuple []) h62)) fun J63 => gK v51 false (
 J63 v58 h59) (J63 (NV.tuple []) h59)) fun J60 => gK v51 false (
 bK (eqI v55 (NV.int .i64 (.ofNat 2))) fun v160 =>
 J60 v160 h56) (J60 (NV.tuple []) h56)) fun J57 => gK v51 false (
 bK (ldO 1 false h53 v52) fun v161 =>
 J57 v161 h53) (J57 (NV.tuple []) h53)) fun J54 => gK v51 false (
 bK (fAddr 1 v2) fun v162 =>
 J54 v162 h49) (J54 (NV.tuple []) h49)) fun J50 => gK v26 false (
 bK (pickO v36 v45 (NV.bool false)) fun v163 =>
 J50 v163 h46) (J50 (NV.tuple []) h46)) fun J47 => gK v36 true (
 mK (calM call 68 [v42] h43) fun v164 h165 =>
 J47 v164 h165) (J47 (NV.tuple []) h43)) fun J44 => gK v36 true (
 bK (ldO 1 false h40 v39) fun v166 =>
 J44 v166 h40) (J44 (NV.tuple []) h40)) fun J41 => gK v36 true (
 bK (fAddr 2 v2) fun v167 =>
 J41 v167 h37) (J41 (NV.tuple []) h37)) fun J38 => gK v26 false (
 J38 v33 h34) (J38 (NV.tuple []) h34)) fun J35 => gK v26 false (
 bK (eqI v30 (NV.int .i64 (.ofNat 1))) fun v168 =>
 J35 v168 h31) (J35 (NV.tuple []) h31)) fun J32 => gK v26 false (
 bK (ldO 1 false h28 v27) fun v169 =>
 J32 v169 h28) (J32 (NV.tuple []) h28)) fun J29 => gK v26 false (
 bK (fAddr 1 v2) fun v170 =>
 J29 v170 h24) (J29 (NV.tuple []) h24)) fun J25 => gK v16 true (
 bK (eqI v20 (NV.int .i64 (.ofNat 0))) fun v171 =>
 J25 v171 h21) (J25 (NV.tuple []) h21)) fun J22 => gK v16 true (
 bK (ldO 1 false h18 v17) fun v172 =>
 J22 v172 h18) (J22 (NV.tuple []) h18)) fun J19 => gK v16 true (
 bK (fAddr 2 v2) fun v173 =>
 J19 v173 h12) (J19 (NV.tuple []) h12)) (
 bK (fAddr 6 v2) fun v174 =>
 bK (ldO 1 false h12 v174) fun v175 =>
 bK (lenSl v175) fun v176 =>
 bK (fAddr 7 v2) fun v177 =>
 bK (ldO 1 false h12 v177) fun v178 =>
 bK (lenSl v178) fun v179 =>
 bK (addI v176 v179) fun v180 =>
 bK (gtI v180 (NV.int .i64 (.ofNat 0))) fun v181 =>
 jK (fun v182 h183 =>
 jK (fun v185 h186 =>
 bK (pickO v181 (NV.bool true) v185) fun v188 =>
 condK v188 (
 retC (NV.bool false) h186) (
 bK (eqI v11 (NV.int .i64 (.ofNat 2))) fun v189 =>
 joinC 3 (fun v190 v191 v192 h193 =>
 condK v192 (
 bK (ldO 9 true h193 v190) fun v195 =>
 bK (bldO [(0, 1)] [(NV.bool false), (NV.bool false), (NV.bool false), (NV.bool false), (NV.bool false)] [(NV.bool true)]) fun v196 =>
 mK (calM call 169 [v195, v196] h193) fun v197 h198 =>
 jK (fun v199 h200 =>
 jK (fun v202 h203 =>
 jK (fun v205 h206 =>
 bK (pickO v197 v205 (NV.bool false)) fun v208 =>
 retC v208 h206) fun J207 => gK v197 true (
 mK (calM call 70 [v202] h203) fun v209 h210 =>
 J207 v209 h210) (J207 (NV.tuple []) h203)) fun J204 => gK v197 true (
 bK (ldO 1 false h200 v199) fun v211 =>
 J204 v211 h200) (J204 (NV.tuple []) h200)) fun J201 => gK v197 true (
 bK (fAddr 1 v190) fun v212 =>
 J201 v212 h198) (J201 (NV.tuple []) h198)) (
 bK (eqI v191 (NV.int .i64 (.ofNat 3))) fun v213 =>
 condK v213 (
 bK (ldO 9 true h193 v190) fun v214 =>
 bK (bldO [(0, 1), (4, 1)] [(NV.bool false), (NV.bool false), (NV.bool false), (NV.bool false), (NV.bool false)] [(NV.bool true), (NV.bool true)]) fun v215 =>
 mK (calM call 169 [v214, v215] h193) fun v216 h217 =>
 jK (fun v218 h219 =>
 jK (fun v221 h222 =>
 jK (fun v224 h225 =>
 bK (pickO v216 v224 (NV.bool false)) fun v227 =>
 jK (fun v228 h229 =>
 jK (fun v231 h232 =>
 jK (fun v234 h235 =>
 bK (pickO v227 v234 (NV.bool false)) fun v237 =>
 retC v237 h235) fun J236 => gK v227 true (
 mK (calM call 67 [v231, (NV.func (.func 70) [] [])] h232) fun v238 h239 =>
 J236 v238 h239) (J236 (NV.tuple []) h232)) fun J233 => gK v227 true (
 bK (ldO 1 false h229 v228) fun v240 =>
 J233 v240 h229) (J233 (NV.tuple []) h229)) fun J230 => gK v227 true (
 bK (fAddr 5 v190) fun v241 =>
 J230 v241 h225) (J230 (NV.tuple []) h225)) fun J226 => gK v216 true (
 mK (calM call 70 [v221] h222) fun v242 h243 =>
 J226 v242 h243) (J226 (NV.tuple []) h222)) fun J223 => gK v216 true (
 bK (ldO 1 false h219 v218) fun v244 =>
 J223 v244 h219) (J223 (NV.tuple []) h219)) fun J220 => gK v216 true (
 bK (fAddr 1 v190) fun v245 =>
 J220 v245 h217) (J220 (NV.tuple []) h217)) (
 bK (eqI v191 (NV.int .i64 (.ofNat 5))) fun v246 =>
 joinC 3 (fun v247 v248 v249 h250 =>
 condK v249 (
 bK (ldO 9 true h250 v247) fun v252 =>
 bK (bldO [(0, 1), (1, 1)] [(NV.bool false), (NV.bool false), (NV.bool false), (NV.bool false), (NV.bool false)] [(NV.bool true), (NV.bool true)]) fun v253 =>
 mK (calM call 169 [v252, v253] h250) fun v254 h255 =>
 jK (fun v256 h257 =>
 jK (fun v259 h260 =>
 jK (fun v262 h263 =>
 bK (pickO v254 v262 (NV.bool false)) fun v265 =>
 jK (fun v266 h267 =>
 jK (fun v269 h270 =>
 jK (fun v272 h273 =>
 bK (pickO v265 v272 (NV.bool false)) fun v275 =>
 retC v275 h273) fun J274 => gK v265 true (
 mK (calM call 70 [v269] h270) fun v276 h277 =>
 J274 v276 h277) (J274 (NV.tuple []) h270)) fun J271 => gK v265 true (
 bK (ldO 1 false h267 v266) fun v278 =>
 J271 v278 h267) (J271 (NV.tuple []) h267)) fun J268 => gK v265 true (
 bK (fAddr 2 v247) fun v279 =>
 J268 v279 h263) (J268 (NV.tuple []) h263)) fun J264 => gK v254 true (
 mK (calM call 70 [v259] h260) fun v280 h281 =>
 J264 v280 h281) (J264 (NV.tuple []) h260)) fun J261 => gK v254 true (
 bK (ldO 1 false h257 v256) fun v282 =>
 J261 v282 h257) (J261 (NV.tuple []) h257)) fun J258 => gK v254 true (
 bK (fAddr 1 v247) fun v283 =>
 J258 v283 h255) (J258 (NV.tuple []) h255)) (
 bK (eqI v248 (NV.int .i64 (.ofNat 26))) fun v284 =>
 condK v284 (
 bK (ldO 9 true h250 v247) fun v285 =>
 bK (bldO [(0, 1), (1, 1), (4, 1)] [(NV.bool false), (NV.bool false), (NV.bool false), (NV.bool false), (NV.bool false)] [(NV.bool true), (NV.bool true), (NV.bool true)]) fun v286 =>
 mK (calM call 169 [v285, v286] h250) fun v287 h288 =>
 jK (fun v289 h290 =>
 jK (fun v292 h293 =>
 jK (fun v295 h296 =>
 bK (pickO v287 v295 (NV.bool false)) fun v298 =>
 jK (fun v299 h300 =>
 jK (fun v302 h303 =>
 jK (fun v305 h306 =>
 bK (pickO v298 v305 (NV.bool false)) fun v308 =>
 jK (fun v309 h310 =>
 jK (fun v312 h313 =>
 jK (fun v315 h316 =>
 jK (fun v318 h319 =>
 bK (pickO v308 v318 (NV.bool false)) fun v321 =>
 jK (fun v322 h323 =>
 jK (fun v325 h326 =>
 jK (fun v328 h329 =>
 jK (fun v331 h332 =>
 jK (fun v334 h335 =>
 bK (pickO v321 v334 (NV.bool false)) fun v337 =>
 retC v337 h335) fun J336 => gK v321 true (
 mK (calM call 170 [v331] h332) fun v338 h339 =>
 J336 v338 h339) (J336 (NV.tuple []) h332)) fun J333 => gK v321 true (
 bK (ldO 1 false h329 v328) fun v340 =>
 J333 v340 h329) (J333 (NV.tuple []) h329)) fun J330 => gK v321 true (
 bK (ixS 1 v325 (NV.int .i64 (.ofNat 0))) fun v341 =>
 J330 v341 h326) (J330 (NV.tuple []) h326)) fun J327 => gK v321 true (
 bK (ldO 1 false h323 v322) fun v342 =>
 J327 v342 h323) (J327 (NV.tuple []) h323)) fun J324 => gK v321 true (
 bK (fAddr 5 v247) fun v343 =>
 J324 v343 h319) (J324 (NV.tuple []) h319)) fun J320 => gK v308 true (
 bK (eqI v315 (NV.int .i64 (.ofNat 1))) fun v344 =>
 J320 v344 h316) (J320 (NV.tuple []) h316)) fun J317 => gK v308 true (
 bK (lenSl v312) fun v345 =>
 J317 v345 h313) (J317 (NV.tuple []) h313)) fun J314 => gK v308 true (
 bK (ldO 1 false h310 v309) fun v346 =>
 J314 v346 h310) (J314 (NV.tuple []) h310)) fun J311 => gK v308 true (
 bK (fAddr 5 v247) fun v347 =>
 J311 v347 h306) (J311 (NV.tuple []) h306)) fun J307 => gK v298 true (
 mK (calM call 70 [v302] h303) fun v348 h349 =>
 J307 v348 h349) (J307 (NV.tuple []) h303)) fun J304 => gK v298 true (
 bK (ldO 1 false h300 v299) fun v350 =>
 J304 v350 h300) (J304 (NV.tuple []) h300)) fun J301 => gK v298 true (
 bK (fAddr 2 v247) fun v351 =>
 J301 v351 h296) (J301 (NV.tuple []) h296)) fun J297 => gK v287 true (
 mK (calM call 70 [v292] h293) fun v352 h353 =>
 J297 v352 h353) (J297 (NV.tuple []) h293)) fun J294 => gK v287 true (
 bK (ldO 1 false h290 v289) fun v354 =>
 J294 v354 h290) (J294 (NV.tuple []) h290)) fun J291 => gK v287 true (
 bK (fAddr 1 v247) fun v355 =>
 J291 v355 h288) (J291 (NV.tuple []) h288)) (
 bK (eqI v248 (NV.int .i64 (.ofNat 6))) fun v356 =>
 condK v356 (
 bK (ldO 9 true h250 v247) fun v357 =>
 bK (bldO [(4, 1)] [(NV.bool false), (NV.bool false), (NV.bool false), (NV.bool false), (NV.bool false)] [(NV.bool true)]) fun v358 =>
 mK (calM call 169 [v357, v358] h250) fun v359 h360 =>
 jK (fun v361 h362 =>
 jK (fun v364 h365 =>
 jK (fun v367 h368 =>
 bK (pickO v359 v367 (NV.bool false)) fun v370 =>
 retC v370 h368) fun J369 => gK v359 true (
 mK (calM call 67 [v364, (NV.func (.func 68) [] [])] h365) fun v371 h372 =>
 J369 v371 h372) (J369 (NV.tuple []) h365)) fun J366 => gK v359 true (
 bK (ldO 1 false h362 v361) fun v373 =>
 J366 v373 h362) (J366 (NV.tuple []) h362)) fun J363 => gK v359 true (
 bK (fAddr 5 v247) fun v374 =>
 J363 v374 h360) (J363 (NV.tuple []) h360)) (
 bK (eqI v248 (NV.int .i64 (.ofNat 12))) fun v375 =>
 joinC 3 (fun v376 v377 v378 h379 =>
 condK v378 (
 bK (ldO 9 true h379 v376) fun v381 =>
 bK (bldO [(2, 1)] [(NV.bool false), (NV.bool false), (NV.bool false), (NV.bool false), (NV.bool false)] [(NV.bool true)]) fun v382 =>
 mK (calM call 169 [v381, v382] h379) fun v383 h384 =>
 jK (fun v385 h386 =>
 jK (fun v388 h389 =>
 jK (fun v391 h392 =>
 bK (pickO v383 v391 (NV.bool false)) fun v394 =>
 retC v394 h392) fun J393 => gK v383 true (
 bK (ltI v388 (NV.int .u64 (.ofNat 4294967296))) fun v395 =>
 J393 v395 h389) (J393 (NV.tuple []) h389)) fun J390 => gK v383 true (
 bK (ldO 1 false h386 v385) fun v396 =>
 J390 v396 h386) (J390 (NV.tuple []) h386)) fun J387 => gK v383 true (
 bK (fAddr 3 v376) fun v397 =>
 J387 v397 h384) (J387 (NV.tuple []) h384)) (
 bK (eqI v377 (NV.int .i64 (.ofNat 13))) fun v398 =>
 joinC 3 (fun v399 v400 v401 h402 =>
 condK v401 (
 bK (ldO 9 true h402 v399) fun v404 =>
 bK (bldO [(2, 1)] [(NV.bool false), (NV.bool false), (NV.bool false), (NV.bool false), (NV.bool false)] [(NV.bool true)]) fun v405 =>
 mK (calM call 169 [v404, v405] h402) fun v406 h407 =>
 retC v406 h407) (
 bK (eqI v400 (NV.int .i64 (.ofNat 23))) fun v408 =>
 condK v408 (
 bK (ldO 9 true h402 v399) fun v409 =>
 bK (bldO [(2, 1), (3, 1)] [(NV.bool false), (NV.bool false), (NV.bool false), (NV.bool false), (NV.bool false)] [(NV.bool true), (NV.bool true)]) fun v410 =>
 mK (calM call 169 [v409, v410] h402) fun v411 h412 =>
 retC v411 h412) (
 bK (eqI v400 (NV.int .i64 (.ofNat 16))) fun v413 =>
 condK v413 (
 bK (ldO 9 true h402 v399) fun v414 =>
 bK (bldO [(0, 1)] [(NV.bool false), (NV.bool false), (NV.bool false), (NV.bool false), (NV.bool false)] [(NV.bool true)]) fun v415 =>
 mK (calM call 169 [v414, v415] h402) fun v416 h417 =>
 jK (fun v418 h419 =>
 jK (fun v421 h422 =>
 jK (fun v424 h425 =>
 bK (pickO v416 v424 (NV.bool false)) fun v427 =>
 retC v427 h425) fun J426 => gK v416 true (
 mK (calM call 76 [v421] h422) fun v428 h429 =>
 J426 v428 h429) (J426 (NV.tuple []) h422)) fun J423 => gK v416 true (
 bK (ldO 1 false h419 v418) fun v430 =>
 J423 v430 h419) (J423 (NV.tuple []) h419)) fun J420 => gK v416 true (
 bK (fAddr 1 v399) fun v431 =>
 J420 v431 h417) (J420 (NV.tuple []) h417)) (
 bK (eqI v400 (NV.int .i64 (.ofNat 24))) fun v432 =>
 condK v432 (
 bK (ldO 9 true h402 v399) fun v433 =>
 bK (bldO [(4, 1)] [(NV.bool false), (NV.bool false), (NV.bool false), (NV.bool false), (NV.bool false)] [(NV.bool true)]) fun v434 =>
 mK (calM call 169 [v433, v434] h402) fun v435 h436 =>
 jK (fun v437 h438 =>
 jK (fun v440 h441 =>
 jK (fun v443 h444 =>
 jK (fun v446 h447 =>
 bK (pickO v435 v446 (NV.bool false)) fun v449 =>
 jK (fun v450 h451 =>
 jK (fun v453 h454 =>
 jK (fun v456 h457 =>
 bK (pickO v449 v456 (NV.bool false)) fun v459 =>
 retC v459 h457) fun J458 => gK v449 true (
 mK (calM call 67 [v453, (NV.func (.func 170) [] [])] h454) fun v460 h461 =>
 J458 v460 h461) (J458 (NV.tuple []) h454)) fun J455 => gK v449 true (
 bK (ldO 1 false h451 v450) fun v462 =>
 J455 v462 h451) (J455 (NV.tuple []) h451)) fun J452 => gK v449 true (
 bK (fAddr 5 v399) fun v463 =>
 J452 v463 h447) (J452 (NV.tuple []) h447)) fun J448 => gK v435 true (
 bK (eqI v443 (NV.int .i64 (.ofNat 16))) fun v464 =>
 J448 v464 h444) (J448 (NV.tuple []) h444)) fun J445 => gK v435 true (
 bK (lenSl v440) fun v465 =>
 J445 v465 h441) (J445 (NV.tuple []) h441)) fun J442 => gK v435 true (
 bK (ldO 1 false h438 v437) fun v466 =>
 J442 v466 h438) (J442 (NV.tuple []) h438)) fun J439 => gK v435 true (
 bK (fAddr 5 v399) fun v467 =>
 J439 v467 h436) (J439 (NV.tuple []) h436)) (
 bK (eqI v400 (NV.int .i64 (.ofNat 25))) fun v468 =>
 condK v468 (
 bK (ldO 9 true h402 v399) fun v469 =>
 bK (bldO [(0, 1)] [(NV.bool false), (NV.bool false), (NV.bool false), (NV.bool false), (NV.bool false)] [(NV.bool true)]) fun v470 =>
 mK (calM call 169 [v469, v470] h402) fun v471 h472 =>
 jK (fun v473 h474 =>
 jK (fun v476 h477 =>
 jK (fun v479 h480 =>
 bK (pickO v471 v479 (NV.bool false)) fun v482 =>
 retC v482 h480) fun J481 => gK v471 true (
 mK (calM call 170 [v476] h477) fun v483 h484 =>
 J481 v483 h484) (J481 (NV.tuple []) h477)) fun J478 => gK v471 true (
 bK (ldO 1 false h474 v473) fun v485 =>
 J478 v485 h474) (J478 (NV.tuple []) h474)) fun J475 => gK v471 true (
 bK (fAddr 1 v399) fun v486 =>
 J475 v486 h472) (J475 (NV.tuple []) h472)) (
 bK (ldO 9 true h402 v399) fun v487 =>
 bK (bldO [] [(NV.bool false), (NV.bool false), (NV.bool false), (NV.bool false), (NV.bool false)] []) fun v488 =>
 mK (calM call 169 [v487, v488] h402) fun v489 h490 =>
 retC v489 h490)))))) fun J403 =>
 condK v398 (
 J403 v376 v377 v398 h379) (
 bK (eqI v377 (NV.int .i64 (.ofNat 15))) fun v491 =>
 J403 v376 v377 v491 h379))) fun J380 =>
 condK v375 (
 J380 v247 v248 v375 h250) (
 bK (eqI v248 (NV.int .i64 (.ofNat 14))) fun v492 =>
 J380 v247 v248 v492 h250))))) fun J251 =>
 condK v246 (
 J251 v190 v191 v246 h193) (
 bK (eqI v191 (NV.int .i64 (.ofNat 20))) fun v493 =>
 condK v493 (
 J251 v190 v191 v493 h193) (
 bK (eqI v191 (NV.int .i64 (.ofNat 22))) fun v494 =>
 condK v494 (
 J251 v190 v191 v494 h193) (
 bK (eqI v191 (NV.int .i64 (.ofNat 10))) fun v495 =>
 J251 v190 v191 v495 h193)))))) fun J194 =>
 condK v189 (
 J194 v2 v11 v189 h186) (
 bK (eqI v11 (NV.int .i64 (.ofNat 4))) fun v496 =>
 condK v496 (
 J194 v2 v11 v496 h186) (
 bK (eqI v11 (NV.int .i64 (.ofNat 7))) fun v497 =>
 condK v497 (
 J194 v2 v11 v497 h186) (
 bK (eqI v11 (NV.int .i64 (.ofNat 8))) fun v498 =>
 condK v498 (
 J194 v2 v11 v498 h186) (
 bK (eqI v11 (NV.int .i64 (.ofNat 9))) fun v499 =>
 condK v499 (
 J194 v2 v11 v499 h186) (
 bK (eqI v11 (NV.int .i64 (.ofNat 17))) fun v500 =>
 condK v500 (
 J194 v2 v11 v500 h186) (
 bK (eqI v11 (NV.int .i64 (.ofNat 18))) fun v501 =>
 condK v501 (
 J194 v2 v11 v501 h186) (
 bK (eqI v11 (NV.int .i64 (.ofNat 21))) fun v502 =>
 J194 v2 v11 v502 h186))))))))) fun J187 => gK v181 false (
 bK (ldO 1 false h183 v182) fun v503 =>
 J187 v503 h183) (J187 (NV.tuple []) h183)) fun J184 => gK v181 false (
 bK (fAddr 8 v2) fun v504 =>
 J184 v504 h12) (J184 (NV.tuple []) h12))))
theorem e132 : ikB Tryz.prog 6 Tryz.f132 = S132 := by kernel_rfl
theorem k132 (w0 : World) : SOK cW w0 132 S132 := okW Tryz.func132 (by kernel_rfl) e132
noncomputable def S133 (call : CallF) (N : Nat) (l : List NV) (h : H) : R :=
 uc l fun v0 l1 => uc l1 fun v2 l3 => un l3 (
 bK (ldO 1 false h v2) fun v4 =>
 mK (calV call v4 [v0] h) fun v5 h6 =>
 bK (notO v5) fun v7 =>
 retC v7 h6)
theorem e133 : ikB Tryz.prog 6 Tryz.f133 = S133 := by kernel_rfl
theorem k133 (w0 : World) : SOK cW w0 133 S133 := okW Tryz.func133 (by kernel_rfl) e133
noncomputable def S171 (call : CallF) (N : Nat) (l : List NV) (h : H) : R :=
 uc l fun v0 l1 => uc l1 fun v2 l3 => un l3 (
 bK (lenSl v0) fun v4 =>
 joinC 0 (fun h5 =>
 retC (NV.int .i64 (.negSucc 0)) h5) fun J6 =>
 loopC N 4 (fun L12 v7 v8 v9 v10 h11 =>
 bK (ltI v10 v9) fun v13 =>
 condK v13 (
 bK (ixS 2 v7 v10) fun v14 =>
 bK (ldO 2 true h11 v14) fun v15 =>
 mK (calV call v8 [v15] h11) fun v16 h17 =>
 condK v16 (
 retC v10 h17) (
 bK (addI v10 (NV.int .i64 (.ofNat 1))) fun v18 =>
 L12 v7 v8 v9 v18 h17)) (
 J6 h11)) v0 v2 v4 (NV.int .i64 (.ofNat 0)) h)
theorem e171 : ikB Tryz.prog 6 Tryz.f171 = S171 := by kernel_rfl
theorem k171 (w0 : World) : SOK cW w0 171 S171 := okW Tryz.func171 (by kernel_rfl) e171
noncomputable def S172 (call : CallF) (N : Nat) (l : List NV) (h : H) : R :=
 uc l fun v0 l1 => uc l1 fun v2 l3 => un l3 (
 bK (lenSl v0) fun v4 =>
 joinC 0 (fun h5 =>
 retC (NV.int .i64 (.negSucc 0)) h5) fun J6 =>
 loopC N 4 (fun L12 v7 v8 v9 v10 h11 =>
 bK (ltI v10 v9) fun v13 =>
 condK v13 (
 bK (ixS 13 v7 v10) fun v14 =>
 bK (ldO 13 true h11 v14) fun v15 =>
 mK (calV call v8 [v15] h11) fun v16 h17 =>
 condK v16 (
 retC v10 h17) (
 bK (addI v10 (NV.int .i64 (.ofNat 1))) fun v18 =>
 L12 v7 v8 v9 v18 h17)) (
 J6 h11)) v0 v2 v4 (NV.int .i64 (.ofNat 0)) h)
theorem e172 : ikB Tryz.prog 6 Tryz.f172 = S172 := by kernel_rfl
theorem k172 (w0 : World) : SOK cW w0 172 S172 := okW Tryz.func172 (by kernel_rfl) e172
noncomputable def S173 (call : CallF) (N : Nat) (l : List NV) (h : H) : R :=
 uc l fun v0 l1 => uc l1 fun v2 l3 => un l3 (
 bK (lenSl v0) fun v4 =>
 joinC 0 (fun h5 =>
 retC (NV.int .i64 (.negSucc 0)) h5) fun J6 =>
 loopC N 4 (fun L12 v7 v8 v9 v10 h11 =>
 bK (ltI v10 v9) fun v13 =>
 condK v13 (
 bK (ixS 4 v7 v10) fun v14 =>
 bK (ldO 4 true h11 v14) fun v15 =>
 mK (calV call v8 [v15] h11) fun v16 h17 =>
 condK v16 (
 retC v10 h17) (
 bK (addI v10 (NV.int .i64 (.ofNat 1))) fun v18 =>
 L12 v7 v8 v9 v18 h17)) (
 J6 h11)) v0 v2 v4 (NV.int .i64 (.ofNat 0)) h)
theorem e173 : ikB Tryz.prog 6 Tryz.f173 = S173 := by kernel_rfl
theorem k173 (w0 : World) : SOK cW w0 173 S173 := okW Tryz.func173 (by kernel_rfl) e173
noncomputable def S174 (call : CallF) (N : Nat) (l : List NV) (h : H) : R :=
 uc l fun v0 l1 => uc l1 fun v2 l3 => un l3 (
 bK (lenSl v0) fun v4 =>
 joinC 0 (fun h5 =>
 retC (NV.int .i64 (.negSucc 0)) h5) fun J6 =>
 loopC N 4 (fun L12 v7 v8 v9 v10 h11 =>
 bK (ltI v10 v9) fun v13 =>
 condK v13 (
 bK (ixS 3 v7 v10) fun v14 =>
 bK (ldO 3 true h11 v14) fun v15 =>
 mK (calV call v8 [v15] h11) fun v16 h17 =>
 condK v16 (
 retC v10 h17) (
 bK (addI v10 (NV.int .i64 (.ofNat 1))) fun v18 =>
 L12 v7 v8 v9 v18 h17)) (
 J6 h11)) v0 v2 v4 (NV.int .i64 (.ofNat 0)) h)
theorem e174 : ikB Tryz.prog 6 Tryz.f174 = S174 := by kernel_rfl
theorem k174 (w0 : World) : SOK cW w0 174 S174 := okW Tryz.func174 (by kernel_rfl) e174
noncomputable def S175 (call : CallF) (N : Nat) (l : List NV) (h : H) : R :=
 uc l fun v0 l1 => uc l1 fun v2 l3 => un l3 (
 bK (lenSl v0) fun v4 =>
 joinC 0 (fun h5 =>
 retC (NV.int .i64 (.negSucc 0)) h5) fun J6 =>
 loopC N 4 (fun L12 v7 v8 v9 v10 h11 =>
 bK (ltI v10 v9) fun v13 =>
 condK v13 (
 bK (ixS 3 v7 v10) fun v14 =>
 bK (ldO 3 true h11 v14) fun v15 =>
 mK (calV call v8 [v15] h11) fun v16 h17 =>
 condK v16 (
 retC v10 h17) (
 bK (addI v10 (NV.int .i64 (.ofNat 1))) fun v18 =>
 L12 v7 v8 v9 v18 h17)) (
 J6 h11)) v0 v2 v4 (NV.int .i64 (.ofNat 0)) h)
theorem e175 : ikB Tryz.prog 6 Tryz.f175 = S175 := by kernel_rfl
theorem k175 (w0 : World) : SOK cW w0 175 S175 := okW Tryz.func175 (by kernel_rfl) e175
noncomputable def S149 (call : CallF) (N : Nat) (l : List NV) (h : H) : R :=
 uc l fun v0 l1 => un l1 (
 mK (calM call 176 [v0, (NV.int .i64 (.ofNat 1))] h) fun v2 h3 =>
 mK (s2bM v2 h3) fun v4 h5 =>
 bK (lenSl v4) fun v6 =>
 joinC 1 (fun v7 h8 =>
 retC v7 h8) fun J9 =>
 loopC N 4 (fun L15 v10 v11 v12 v13 h14 =>
 bK (ltI v13 v12) fun v16 =>
 condK v16 (
 bK (ixS 1 v11 v13) fun v17 =>
 bK (ldO 1 false h14 v17) fun v18 =>
 bK (binO .mul (NV.int .i64 (.ofNat 10)) v10) fun v19 =>
 bK (subI v18 (NV.int .u8 (.ofNat 48))) fun v20 =>
 bK (cvI .i64 v20) fun v21 =>
 bK (addI v19 v21) fun v22 =>
 bK (addI v13 (NV.int .i64 (.ofNat 1))) fun v23 =>
 L15 v22 v11 v12 v23 h14) (
 J9 v10 h14)) (NV.int .i64 (.ofNat 0)) v4 v6 (NV.int .i64 (.ofNat 0)) h5)
theorem e149 : ikB Tryz.prog 6 Tryz.f149 = S149 := by kernel_rfl
theorem k149 (w0 : World) : SOK cW w0 149 S149 := okW Tryz.func149 (by kernel_rfl) e149
noncomputable def S178 (call : CallF) (N : Nat) (l : List NV) (h : H) : R :=
 uc l fun v0 l1 => uc l1 fun v2 l3 => un l3 (
 mK (calM call 192 [v0, v2] h) fun v4 h5 =>
 bK (extO 0 v4) fun v6 =>
 bK (extO 1 v4) fun v7 =>
 retC (NV.tuple [v6, v7]) h5)
theorem e178 : ikB Tryz.prog 6 Tryz.f178 = S178 := by kernel_rfl
theorem k178 (w0 : World) : SOK cW w0 178 S178 := okW Tryz.func178 (by kernel_rfl) e178
noncomputable def S179 (call : CallF) (N : Nat) (l : List NV) (h : H) : R :=
 uc l fun v0 l1 => uc l1 fun v2 l3 => un l3 (
 mK (calM call 193 [v0, v2] h) fun v4 h5 =>
 bK (extO 0 v4) fun v6 =>
 bK (extO 1 v4) fun v7 =>
 bK (extO 2 v4) fun v8 =>
 retC (NV.tuple [v6, v7, v8]) h5)
theorem e179 : ikB Tryz.prog 6 Tryz.f179 = S179 := by kernel_rfl
theorem k179 (w0 : World) : SOK cW w0 179 S179 := okW Tryz.func179 (by kernel_rfl) e179
noncomputable def S180 (call : CallF) (N : Nat) (l : List NV) (h : H) : R :=
 uc l fun v0 l1 => uc l1 fun v2 l3 => un l3 (
 mK (boxM false v0 h) fun v4 h5 =>
 bK (ldO 2 true h5 v4) fun v6 =>
 bK (ldO 2 true h5 v2) fun v7 =>
 mK (calM call 156 [v6, v7] h5) fun v8 h9 =>
 retC v8 h9)
theorem e180 : ikB Tryz.prog 6 Tryz.f180 = S180 := by kernel_rfl
theorem k180 (w0 : World) : SOK cW w0 180 S180 := okW Tryz.func180 (by kernel_rfl) e180
noncomputable def S181 (call : CallF) (N : Nat) (l : List NV) (h : H) : R :=
 uc l fun v0 l1 => uc l1 fun v2 l3 => un l3 (
 bK (lenSl v0) fun v4 =>
 bK (lenSl v2) fun v5 =>
 bK (neI v4 v5) fun v6 =>
 condK v6 (
 retC (NV.bool false) h) (
 bK (lenSl v0) fun v7 =>
 joinC 0 (fun h8 =>
 retC (NV.bool true) h8) fun J9 =>
 loopC N 4 (fun L15 v10 v11 v12 v13 h14 =>
 bK (ltI v13 v12) fun v16 =>
 condK v16 (
 bK (ixS 1 v10 v13) fun v17 =>
 bK (ldO 1 false h14 (chkV h14 v17)) fun v18 =>
 bK (ixS 1 v11 v13) fun v19 =>
 bK (ldO 1 false h14 (chkV h14 v19)) fun v20 =>
 bK (neI v18 v20) fun v21 =>
 condK v21 (
 retC (NV.bool false) h14) (
 bK (addI v13 (NV.int .i64 (.ofNat 1))) fun v22 =>
 L15 v10 v11 v12 v22 h14)) (
 J9 h14)) v0 v2 v7 (NV.int .i64 (.ofNat 0)) h))
theorem e181 : ikB Tryz.prog 6 Tryz.f181 = S181 := by kernel_rfl
theorem k181 (w0 : World) : SOK cW w0 181 S181 := okW Tryz.func181 (by kernel_rfl) e181
noncomputable def S182 (call : CallF) (N : Nat) (l : List NV) (h : H) : R :=
 uc l fun v0 l1 => un l1 (
 mK (calM call 178 [v0, (NV.str 1 45)] h) fun v2 h3 =>
 bK (extO 0 v2) fun v4 =>
 bK (extO 1 v2) fun v5 =>
 condK v5 (
 retC (NV.tuple [(NV.bool true), v4]) h3) (
 mK (calM call 194 [v0, (NV.str 1 43)] h3) fun v6 h7 =>
 retC (NV.tuple [(NV.bool false), v6]) h7))
theorem e182 : ikB Tryz.prog 6 Tryz.f182 = S182 := by kernel_rfl
theorem k182 (w0 : World) : SOK cW w0 182 S182 := okW Tryz.func182 (by kernel_rfl) e182
noncomputable def S183 (call : CallF) (N : Nat) (l : List NV) (h : H) : R :=
 uc l fun v0 l1 => uc l1 fun v2 l3 => un l3 (
 joinC 2 (fun v4 v5 h6 =>
 mK (calM call 195 [v4, (NV.str 1 95), (NV.str 0 0)] h6) fun v8 h9 =>
 mK (rngM v8 h9) fun v10 h11 =>
 joinC 2 (fun v12 v13 h14 =>
 mK (calM call 113 [v12, (NV.str 1 95)] h14) fun v16 h17 =>
 jK (fun v18 h19 =>
 jK (fun v21 h22 =>
 bK (pickO v16 (NV.bool true) v21) fun v24 =>
 jK (fun v25 h26 =>
 jK (fun v28 h29 =>
 bK (pickO v24 (NV.bool true) v28) fun v31 =>
 bK (binO .neq v13 (NV.str 0 0)) fun v32 =>
 jK (fun v33 h34 =>
 jK (fun v36 h37 =>
 bK (pickO v32 v36 (NV.bool false)) fun v39 =>
 retC (NV.tuple [v13, v39]) h37) fun J38 => gK v32 true (
 bK (notO v33) fun v40 =>
 J38 v40 h34) (J38 (NV.tuple []) h34)) fun J35 => gK v32 true (
 J35 v31 h29) (J35 (NV.tuple []) h29)) fun J30 => gK v24 false (
 mK (calM call 197 [v25, (NV.str 2 24415)] h26) fun v41 h42 =>
 J30 v41 h42) (J30 (NV.tuple []) h26)) fun J27 => gK v24 false (
 J27 v12 h22) (J27 (NV.tuple []) h22)) fun J23 => gK v16 false (
 mK (calM call 196 [v18, (NV.str 1 95)] h19) fun v43 h44 =>
 J23 v43 h44) (J23 (NV.tuple []) h19)) fun J20 => gK v16 false (
 J20 v12 h17) (J20 (NV.tuple []) h17)) fun J15 =>
 loopC N 4 (fun L50 v45 v46 v47 v48 h49 =>
 mK (nxtM v48 h49) fun v51 h52 =>
 bK (extO 0 v51) fun v53 =>
 condK v53 (
 bK (extO 2 v51) fun v54 =>
 bK (gtI v54 (NV.int .i32 (.ofNat 102))) fun v55 =>
 jK (fun v56 h57 =>
 jK (fun v59 h60 =>
 jK (fun v62 h63 =>
 jK (fun v65 h66 =>
 jK (fun v68 h69 =>
 jK (fun v71 h72 =>
 bK (pickO v55 (NV.bool true) v71) fun v74 =>
 condK v74 (
 retC (NV.tuple [(NV.str 0 0), (NV.bool false)]) h72) (
 L50 v45 v46 v47 v48 h72)) fun J73 => gK v55 false (
 bK (ltI v68 (NV.int .i64 (.ofNat 0))) fun v75 =>
 J73 v75 h69) (J73 (NV.tuple []) h69)) fun J70 => gK v55 false (
 mK (calM call 99 [v59, v65] h66) fun v76 h77 =>
 J70 v76 h77) (J70 (NV.tuple []) h66)) fun J67 => gK v55 false (
 bK (cvI .u8 v62) fun v78 =>
 J67 v78 h63) (J67 (NV.tuple []) h63)) fun J64 => gK v55 false (
 J64 v54 h60) (J64 (NV.tuple []) h60)) fun J61 => gK v55 false (
 bK (slStr (NV.str 22 26291342665239622251265189840170011249128153612955952) none (some v56)) fun v79 =>
 J61 v79 h57) (J61 (NV.tuple []) h57)) fun J58 => gK v55 false (
 J58 v46 h52) (J58 (NV.tuple []) h52)) (
 J15 v45 v47 h52)) v4 v5 v8 v10 h11) fun J7 =>
 condK v2 (
 J7 v0 (NV.int .i64 (.ofNat 22)) h) (
 J7 v0 (NV.int .i64 (.ofNat 10)) h))
theorem e183 : ikB Tryz.prog 6 Tryz.f183 = S183 := by kernel_rfl
theorem k183 (w0 : World) : SOK cW w0 183 S183 := okW Tryz.func183 (by kernel_rfl) e183
noncomputable def S184 (call : CallF) (N : Nat) (l : List NV) (h : H) : R :=
 uc l fun v0 l1 => uc l1 fun v2 l3 => un l3 (
 mK (rngM v0 h) fun v4 h5 =>
 joinC 1 (fun v6 h7 =>
 retC (NV.tuple [v6, (NV.bool true)]) h7) fun J8 =>
 loopC N 3 (fun L13 v9 v10 v11 h12 =>
 mK (nxtM v11 h12) fun v14 h15 =>
 bK (extO 0 v14) fun v16 =>
 condK v16 (
 bK (extO 2 v14) fun v17 =>
 mK (calM call 198 [v17] h15) fun v18 h19 =>
 bK (subI (NV.int .u64 (.ofNat 18446744073709551615)) v18) fun v20 =>
 bK (binO .quo v20 v9) fun v21 =>
 bK (gtI v10 v21) fun v22 =>
 condK v22 (
 retC (NV.tuple [(NV.int .u64 (.ofNat 0)), (NV.bool false)]) h19) (
 bK (binO .mul v10 v9) fun v23 =>
 bK (addI v23 v18) fun v24 =>
 L13 v9 v24 v11 h19)) (
 J8 v10 h15)) v2 (NV.int .u64 (.ofNat 0)) v4 h5)
theorem e184 : ikB Tryz.prog 6 Tryz.f184 = S184 := by kernel_rfl
theorem k184 (w0 : World) : SOK cW w0 184 S184 := okW Tryz.func184 (by kernel_rfl) e184
noncomputable def S185 (call : CallF) (N : Nat) (l : List NV) (h : H) : R :=
 uc l fun v0 l1 => uc l1 fun v2 l3 => uc l3 fun v4 l5 => un l5 (
 mK (boxM false v2 h) fun v6 h7 =>
 mK (alM (NB.cells [(NV.int .i64 (.ofNat 0)), (NV.int .i64 (.ofNat 0)), (NV.int .i64 (.ofNat 0)), (NV.int .u64 (.ofNat 0)), (NV.int .u64 (.ofNat 0)), NV.nslice, NV.nslice, NV.nslice, (NV.bool false)]) h7) fun v8 h9 =>
 mK (calM call 199 [v4] h9) fun v10 h11 =>
 bK (extO 0 v10) fun v12 =>
 bK (extO 1 v10) fun v13 =>
 bK (ldO 1 false h11 v6) fun v14 =>
 bK (nilO v14) fun v15 =>
 bK (fAddr 0 v15) fun v16 =>
 bK (ldO 1 false h11 v16) fun v17 =>
 mK (calM call 31 [v17, v13] h11) fun v18 h19 =>
 bK (bldO [(0, 1)] [(NV.int .i64 (.ofNat 0)), (NV.int .i64 (.ofNat 0)), (NV.int .i64 (.ofNat 0)), (NV.int .u64 (.ofNat 0)), (NV.int .u64 (.ofNat 0)), NV.nslice, NV.nslice, NV.nslice, (NV.bool false)] [v12]) fun v20 =>
 mK (alM (NB.cells [(NV.int .i64 (.ofNat 0)), (NV.int .i64 (.ofNat 0)), (NV.int .i64 (.ofNat 0)), (NV.int .u64 (.ofNat 0)), (NV.int .u64 (.ofNat 0)), NV.nslice, NV.nslice, NV.nslice, (NV.bool false)]) h19) fun v21 h22 =>
 mK (stM 9 v21 v20 h22) fun v23 h24 =>
 mK (calM call 149 [v12] h24) fun v25 h26 =>
 bK (neI v25 (NV.int .i64 (.ofNat 1))) fun v27 =>
 jK (fun v28 h29 =>
 jK (fun v31 h32 =>
 bK (pickO v27 (NV.bool true) v31) fun v34 =>
 condK v34 (
 joinC 2 (fun v35 v36 h37 =>
 bK (ldO 9 true h37 v36) fun v39 =>
 mK (stM 9 v35 v39 h37) fun v40 h41 =>
 bK (ldO 9 true h41 v35) fun v42 =>
 retC v42 h41) fun J38 =>
 condK v13 (
 bK (ldO 1 false h32 v6) fun v43 =>
 mK (calM call 200 [v0, v43, v21] h32) fun v44 h45 =>
 J38 v8 v21 h45) (
 J38 v8 v21 h32)) (
 bK (ldO 1 false h32 v6) fun v46 =>
 mK (calM call 13 [v46] h32) fun v47 h48 =>
 mK (alM (NB.cells [(NV.str 0 0)]) h48) fun v49 h50 =>
 mK (stM 1 v49 v47 h50) fun v51 h52 =>
 bK (ldO 1 false h52 v6) fun v53 =>
 mK (calM call 201 [v0, v53, v21] h52) fun v54 h55 =>
 bK (nilO v0) fun v56 =>
 bK (fAddr 2 v56) fun v57 =>
 bK (ldO 1 false h55 (chkV h55 v57)) fun v58 =>
 bK (ldO 1 false h55 (chkV h55 v49)) fun v59 =>
 mK (bslM 1 false [(0, 1)] [(NV.str 0 0)] [(chkV h55 v59)] h55) fun v60 h61 =>
 mK (appM Tryz.prog 9 (chkV h61 v58) (chkV h61 v60) h61) fun v62 h63 =>
 nextK h61 h63 (
 bK (nilO v0) fun v64 =>
 bK (fAddr 2 v64) fun v65 =>
 mK (stM 1 (chkV h63 v65) (chkV h63 v62) h63) fun v66 h67 =>
 nextK h63 h67 (
 bK (ldO 1 false h67 v6) fun v68 =>
 mK (calM call 164 [v0, v68] h67) fun v69 h70 =>
 bK (fAddr 6 v21) fun v71 =>
 mK (stM 1 v71 v69 h70) fun v72 h73 =>
 bK (eqI v12 (NV.int .i64 (.ofNat 4))) fun v74 =>
 jK (fun v75 h76 =>
 jK (fun v78 h79 =>
 bK (pickO v74 v78 (NV.bool false)) fun v81 =>
 joinC 5 (fun v82 v83 v84 v85 v86 h87 =>
 bK (ldO 1 false h87 (chkV h87 v83)) fun v89 =>
 bK (nilO v89) fun v90 =>
 bK (fAddr 0 v90) fun v91 =>
 bK (ldO 1 false h87 (chkV h87 v91)) fun v92 =>
 bK (ldO 1 false h87 (chkV h87 v83)) fun v93 =>
 mK (calM call 115 [(chkV h87 v93), (NV.str 3 6581861)] h87) fun v94 h95 =>
 nextK h87 h95 (
 bK (ldO 1 false h95 (chkV h95 v83)) fun v96 =>
 sameK v96 v89 (
 bK (ldO 1 false h95 (chkV h95 v91)) fun v97 =>
 sameK v97 v92 (
 mK (calM call 31 [(chkV h95 v92), (chkV h95 v94)] h95) fun v98 h99 =>
 nextK h95 h99 (
 mK (calV call v86 [] h99) fun v100 h101 =>
 bK (nilO v82) fun v102 =>
 bK (fAddr 2 v102) fun v103 =>
 bK (ldO 1 false h101 (chkV h101 v103)) fun v104 =>
 bK (nilO v82) fun v105 =>
 bK (fAddr 2 v105) fun v106 =>
 bK (ldO 1 false h101 (chkV h101 v106)) fun v107 =>
 bK (lenSl v107) fun v108 =>
 bK (subI v108 (NV.int .i64 (.ofNat 1))) fun v109 =>
 bK (slcO Tryz.prog 46 h101 (chkV h101 v104) none (some (chkV h101 v109)) none) fun v110 =>
 bK (nilO v82) fun v111 =>
 bK (fAddr 2 v111) fun v112 =>
 mK (stM 1 (chkV h101 v112) (chkV h101 v110) h101) fun v113 h114 =>
 nextK h101 h114 (
 bK (ldO 9 true h114 v85) fun v115 =>
 mK (stM 9 v84 v115 h114) fun v116 h117 =>
 bK (ldO 9 true h117 v84) fun v118 =>
 retC v118 h117)))))) fun J88 =>
 condK v81 (
 mK (calV call (NV.func (.func 202) [] [v6, v49]) [] h79) fun v119 h120 =>
 bK (ldO 1 false h120 v6) fun v121 =>
 mK (calM call 164 [v0, v121] h120) fun v122 h123 =>
 bK (fAddr 8 v21) fun v124 =>
 mK (stM 1 v124 (NV.bool true) h123) fun v125 h126 =>
 bK (fAddr 7 v21) fun v127 =>
 mK (stM 1 v127 v122 h126) fun v128 h129 =>
 J88 v0 v6 v8 v21 (NV.func (.func 202) [] [v6, v49]) h129) (
 J88 v0 v6 v8 v21 (NV.func (.func 202) [] [v6, v49]) h79)) fun J80 => gK v74 true (
 mK (calM call 115 [v75, (NV.str 4 1702063205)] h76) fun v130 h131 =>
 J80 v130 h131) (J80 (NV.tuple []) h76)) fun J77 => gK v74 true (
 bK (ldO 1 false h73 v6) fun v132 =>
 J77 v132 h73) (J77 (NV.tuple []) h73))))) fun J33 => gK v27 false (
 bK (notO v28) fun v133 =>
 J33 v133 h29) (J33 (NV.tuple []) h29)) fun J30 => gK v27 false (
 J30 v13 h26) (J30 (NV.tuple []) h26))
theorem e185 : ikB Tryz.prog 6 Tryz.f185 = S185 := by kernel_rfl
theorem k185 (w0 : World) : SOK cW w0 185 S185 := okW Tryz.func185 (by kernel_rfl) e185
noncomputable def S186 (call : CallF) (N : Nat) (l : List NV) (h : H) : R :=
 uc l fun v0 l1 => uc l1 fun v2 l3 => un l3 (
 mK (calM call 29 [v2] h) fun v4 h5 =>
 bK (nilO v2) fun v6 =>
 bK (fAddr 0 v6) fun v7 =>
 bK (ldO 1 false h5 (chkV h5 v7)) fun v8 =>
 bK (binO .neq v4 (NV.str 0 0)) fun v9 =>
 jK (fun v10 h11 =>
 jK (fun v13 h14 =>
 jK (fun v16 h17 =>
 jK (fun v19 h20 =>
 jK (fun v22 h23 =>
 jK (fun v25 h26 =>
 jK (fun v28 h29 =>
 jK (fun v31 h32 =>
 bK (pickO v9 v31 (NV.bool false)) fun v34 =>
 mK (calM call 31 [(chkV h5 v8), (chkV h5 v34)] h5) fun v35 h36 =>
 nextK h5 h36 (
 mK (calM call 12 [v2, v4] h36) fun v37 h38 =>
 bK (extO 0 v37) fun v39 =>
 bK (extO 1 v37) fun v40 =>
 bK (nilO v2) fun v41 =>
 bK (fAddr 0 v41) fun v42 =>
 bK (ldO 1 false h38 v42) fun v43 =>
 bK (nilO v43) fun v44 =>
 bK (fAddr 26 v44) fun v45 =>
 bK (ldO 1 false h38 v45) fun v46 =>
 condK v46 (
 retC NV.nslice h38) (
 bK (binO .eql v4 (NV.str 5 461229747298)) fun v47 =>
 joinC 5 (fun v48 v49 v50 v51 v52 h53 =>
 condK v52 (
 bK (bldO [(0, 1)] [(NV.int .i64 (.ofNat 0)), (NV.int .i64 (.ofNat 0)), (NV.int .i64 (.ofNat 0)), (NV.int .u64 (.ofNat 0)), (NV.int .u64 (.ofNat 0)), NV.nslice, NV.nslice, NV.nslice, (NV.bool false)] [(NV.int .i64 (.ofNat 2))]) fun v55 =>
 mK (alM (NB.cells [(NV.int .i64 (.ofNat 0)), (NV.int .i64 (.ofNat 0)), (NV.int .i64 (.ofNat 0)), (NV.int .u64 (.ofNat 0)), (NV.int .u64 (.ofNat 0)), NV.nslice, NV.nslice, NV.nslice, (NV.bool false)]) h53) fun v56 h57 =>
 mK (stM 9 v56 v55 h57) fun v58 h59 =>
 bK (binO .eql v49 (NV.str 4 1886351212)) fun v60 =>
 joinC 3 (fun v61 v62 v63 h64 =>
 bK (nilO v61) fun v66 =>
 bK (fAddr 2 v66) fun v67 =>
 bK (ldO 1 false h64 (chkV h64 v67)) fun v68 =>
 mK (calM call 13 [(chkV h64 v62)] h64) fun v69 h70 =>
 nextK h64 h70 (
 bK (ldO 1 false h70 (chkV h70 v67)) fun v71 =>
 sameK v71 v68 (
 mK (bslM 1 false [(0, 1)] [(NV.str 0 0)] [(chkV h70 v69)] h70) fun v72 h73 =>
 mK (appM Tryz.prog 9 (chkV h73 v68) (chkV h73 v72) h73) fun v74 h75 =>
 nextK h73 h75 (
 bK (nilO v61) fun v76 =>
 bK (fAddr 2 v76) fun v77 =>
 mK (stM 1 (chkV h75 v77) (chkV h75 v74) h75) fun v78 h79 =>
 nextK h75 h79 (
 mK (calM call 201 [v61, v62, v63] h79) fun v80 h81 =>
 mK (calM call 123 [v61, v62] h81) fun v82 h83 =>
 bK (fAddr 6 v63) fun v84 =>
 mK (stM 1 v84 v82 h83) fun v85 h86 =>
 bK (nilO v61) fun v87 =>
 bK (fAddr 2 v87) fun v88 =>
 bK (ldO 1 false h86 (chkV h86 v88)) fun v89 =>
 bK (nilO v61) fun v90 =>
 bK (fAddr 2 v90) fun v91 =>
 bK (ldO 1 false h86 (chkV h86 v91)) fun v92 =>
 bK (lenSl v92) fun v93 =>
 bK (subI v93 (NV.int .i64 (.ofNat 1))) fun v94 =>
 bK (slcO Tryz.prog 46 h86 (chkV h86 v89) none (some (chkV h86 v94)) none) fun v95 =>
 bK (nilO v61) fun v96 =>
 bK (fAddr 2 v96) fun v97 =>
 mK (stM 1 (chkV h86 v97) (chkV h86 v95) h86) fun v98 h99 =>
 nextK h86 h99 (
 bK (ldO 9 true h99 v63) fun v100 =>
 mK (bslM 1 false [(0, 9)] [(NV.int .i64 (.ofNat 0)), (NV.int .i64 (.ofNat 0)), (NV.int .i64 (.ofNat 0)), (NV.int .u64 (.ofNat 0)), (NV.int .u64 (.ofNat 0)), NV.nslice, NV.nslice, NV.nslice, (NV.bool false)] [v100] h99) fun v101 h102 =>
 retC v101 h102)))))) fun J65 =>
 condK v60 (
 bK (fAddr 0 v56) fun v103 =>
 mK (stM 1 v103 (NV.int .i64 (.ofNat 3)) h59) fun v104 h105 =>
 J65 v48 v50 v56 h105) (
 J65 v48 v50 v56 h59)) (
 bK (binO .eql v51 (NV.str 2 26217)) fun v106 =>
 condK v106 (
 mK (calM call 203 [v48, v50] h53) fun v107 h108 =>
 retC v107 h108) (
 mK (calM call 185 [v48, v50, v49] h53) fun v109 h110 =>
 mK (alM (NB.cells [(NV.int .i64 (.ofNat 0)), (NV.int .i64 (.ofNat 0)), (NV.int .i64 (.ofNat 0)), (NV.int .u64 (.ofNat 0)), (NV.int .u64 (.ofNat 0)), NV.nslice, NV.nslice, NV.nslice, (NV.bool false)]) h110) fun v111 h112 =>
 mK (stM 9 v111 v109 h112) fun v113 h114 =>
 joinC 2 (fun v115 v116 h117 =>
 bK (ldO 9 true h117 v115) fun v119 =>
 mK (bslM 1 false [(0, 9)] [(NV.int .i64 (.ofNat 0)), (NV.int .i64 (.ofNat 0)), (NV.int .i64 (.ofNat 0)), (NV.int .u64 (.ofNat 0)), (NV.int .u64 (.ofNat 0)), NV.nslice, NV.nslice, NV.nslice, (NV.bool false)] [v119] h117) fun v120 h121 =>
 mK (appM Tryz.prog 49 v116 v120 h121) fun v122 h123 =>
 retC v122 h123) fun J118 =>
 loopC N 4 (fun L129 v124 v125 v126 v127 h128 =>
 bK (nilO v125) fun v130 =>
 bK (fAddr 1 v130) fun v131 =>
 bK (ldO 1 false h128 v131) fun v132 =>
 bK (lenSl v132) fun v133 =>
 bK (gtI v133 (NV.int .i64 (.ofNat 0))) fun v134 =>
 jK (fun v135 h136 =>
 jK (fun v138 h139 =>
 jK (fun v141 h142 =>
 jK (fun v144 h145 =>
 jK (fun v147 h148 =>
 jK (fun v150 h151 =>
 jK (fun v153 h154 =>
 jK (fun v156 h157 =>
 bK (pickO v134 v156 (NV.bool false)) fun v159 =>
 condK v159 (
 mK (calM call 186 [v124, v125] h157) fun v160 h161 =>
 mK (appM Tryz.prog 49 v127 v160 h161) fun v162 h163 =>
 L129 v124 v125 v126 v162 h163) (
 J118 v126 v127 h157)) fun J158 => gK v134 true (
 bK (notO v153) fun v164 =>
 J158 v164 h154) (J158 (NV.tuple []) h154)) fun J155 => gK v134 true (
 bK (ldO 1 false h151 v150) fun v165 =>
 J155 v165 h151) (J155 (NV.tuple []) h151)) fun J152 => gK v134 true (
 bK (fAddr 26 v147) fun v166 =>
 J152 v166 h148) (J152 (NV.tuple []) h148)) fun J149 => gK v134 true (
 bK (nilO v144) fun v167 =>
 J149 v167 h145) (J149 (NV.tuple []) h145)) fun J146 => gK v134 true (
 bK (ldO 1 false h142 v141) fun v168 =>
 J146 v168 h142) (J146 (NV.tuple []) h142)) fun J143 => gK v134 true (
 bK (fAddr 0 v138) fun v169 =>
 J143 v169 h139) (J143 (NV.tuple []) h139)) fun J140 => gK v134 true (
 bK (nilO v135) fun v170 =>
 J140 v170 h136) (J140 (NV.tuple []) h136)) fun J137 => gK v134 true (
 J137 v125 h128) (J137 (NV.tuple []) h128)) v48 v50 v111 NV.nslice h114))) fun J54 =>
 condK v47 (
 J54 v0 v4 v39 v4 v47 h38) (
 bK (binO .eql v4 (NV.str 4 1886351212)) fun v171 =>
 J54 v0 v4 v39 v4 v171 h38)))) fun J33 => gK v9 true (
 bK (eqI v28 (NV.int .i64 (.ofNat 4))) fun v172 =>
 J33 v172 h5) (J33 (NV.tuple []) h5)) fun J30 => gK v9 true (
 bK (ldO 1 false h5 (chkV h5 v25)) fun v173 =>
 J30 v173 h5) (J30 (NV.tuple []) h5)) fun J27 => gK v9 true (
 bK (fAddr 0 v22) fun v174 =>
 J27 v174 h5) (J27 (NV.tuple []) h5)) fun J24 => gK v9 true (
 bK (ixS 3 v19 (NV.int .i64 (.ofNat 0))) fun v175 =>
 J24 v175 h5) (J24 (NV.tuple []) h5)) fun J21 => gK v9 true (
 bK (ldO 1 false h5 (chkV h5 v16)) fun v176 =>
 J21 v176 h5) (J21 (NV.tuple []) h5)) fun J18 => gK v9 true (
 bK (fAddr 1 v13) fun v177 =>
 J18 v177 h5) (J18 (NV.tuple []) h5)) fun J15 => gK v9 true (
 bK (nilO v10) fun v178 =>
 J15 v178 h5) (J15 (NV.tuple []) h5)) fun J12 => gK v9 true (
 J12 v2 h5) (J12 (NV.tuple []) h5))
theorem e186 : ikB Tryz.prog 6 Tryz.f186 = S186 := by kernel_rfl
theorem k186 (w0 : World) : SOK cW w0 186 S186 := okW Tryz.func186 (by kernel_rfl) e186
noncomputable def S165 (call : CallF) (N : Nat) (l : List NV) (h : H) : R :=
 uc l fun v0 l1 => uc l1 fun v2 l3 => un l3 (
 bK (lenSl v0) fun v4 =>
 joinC 0 (fun h5 =>
 retC (NV.int .i64 (.negSucc 0)) h5) fun J6 =>
 loopC N 4 (fun L12 v7 v8 v9 v10 h11 =>
 bK (ltI v10 v9) fun v13 =>
 condK v13 (
 bK (ixS 1 v7 v10) fun v14 =>
 bK (ldO 1 false h11 v14) fun v15 =>
 mK (calV call v8 [v15] h11) fun v16 h17 =>
 condK v16 (
 retC v10 h17) (
 bK (addI v10 (NV.int .i64 (.ofNat 1))) fun v18 =>
 L12 v7 v8 v9 v18 h17)) (
 J6 h11)) v0 v2 v4 (NV.int .i64 (.ofNat 0)) h)
theorem e165 : ikB Tryz.prog 6 Tryz.f165 = S165 := by kernel_rfl
theorem k165 (w0 : World) : SOK cW w0 165 S165 := okW Tryz.func165 (by kernel_rfl) e165
noncomputable def S167 (call : CallF) (N : Nat) (l : List NV) (h : H) : R :=
 uc l fun v0 l1 => uc l1 fun v2 l3 => un l3 (
 mK (boxM false v0 h) fun v4 h5 =>
 bK (ldO 1 false h5 v2) fun v6 =>
 bK (ldO 9 true h5 v4) fun v7 =>
 mK (calV call v6 [v7] h5) fun v8 h9 =>
 jK (fun v10 h11 =>
 jK (fun v13 h14 =>
 jK (fun v16 h17 =>
 jK (fun v19 h20 =>
 bK (pickO v8 v19 (NV.bool false)) fun v22 =>
 jK (fun v23 h24 =>
 jK (fun v26 h27 =>
 jK (fun v29 h30 =>
 jK (fun v32 h33 =>
 bK (pickO v22 v32 (NV.bool false)) fun v35 =>
 retC v35 h33) fun J34 => gK v22 true (
 mK (calM call 131 [v26, v29] h30) fun v36 h37 =>
 J34 v36 h37) (J34 (NV.tuple []) h30)) fun J31 => gK v22 true (
 bK (ldO 1 false h27 v2) fun v38 =>
 J31 v38 h27) (J31 (NV.tuple []) h27)) fun J28 => gK v22 true (
 bK (ldO 1 false h24 v23) fun v39 =>
 J28 v39 h24) (J28 (NV.tuple []) h24)) fun J25 => gK v22 true (
 bK (fAddr 7 v4) fun v40 =>
 J25 v40 h20) (J25 (NV.tuple []) h20)) fun J21 => gK v8 true (
 mK (calM call 131 [v13, v16] h17) fun v41 h42 =>
 J21 v41 h42) (J21 (NV.tuple []) h17)) fun J18 => gK v8 true (
 bK (ldO 1 false h14 v2) fun v43 =>
 J18 v43 h14) (J18 (NV.tuple []) h14)) fun J15 => gK v8 true (
 bK (ldO 1 false h11 v10) fun v44 =>
 J15 v44 h11) (J15 (NV.tuple []) h11)) fun J12 => gK v8 true (
 bK (fAddr 6 v4) fun v45 =>
 J12 v45 h9) (J12 (NV.tuple []) h9))
theorem e167 : ikB Tryz.prog 6 Tryz.f167 = S167 := by kernel_rfl
theorem k167 (w0 : World) : SOK cW w0 167 S167 := okW Tryz.func167 (by kernel_rfl) e167
noncomputable def S166 (call : CallF) (N : Nat) (l : List NV) (h : H) : R :=
 uc l fun v0 l1 => uc l1 fun v2 l3 => un l3 (
 mK (boxM false v2 h) fun v4 h5 =>
 mK (calM call 187 [v0, (NV.func (.func 188) [] [v4])] h5) fun v6 h7 =>
 bK (notO v6) fun v8 =>
 retC v8 h7)
theorem e166 : ikB Tryz.prog 6 Tryz.f166 = S166 := by kernel_rfl
theorem k166 (w0 : World) : SOK cW w0 166 S166 := okW Tryz.func166 (by kernel_rfl) e166
noncomputable def S168 (call : CallF) (N : Nat) (l : List NV) (h : H) : R :=
 uc l fun v0 l1 => un l1 (
 mK (calM call 189 [v0] h) fun v2 h3 =>
 bK (binO .neq v2 (NV.str 0 0)) fun v4 =>
 retC v4 h3)
theorem e168 : ikB Tryz.prog 6 Tryz.f168 = S168 := by kernel_rfl
theorem k168 (w0 : World) : SOK cW w0 168 S168 := okW Tryz.func168 (by kernel_rfl) e168
noncomputable def S169 (call : CallF) (N : Nat) (l : List NV) (h : H) : R :=
 uc l fun v0 l1 => uc l1 fun v2 l3 => un l3 (
 mK (boxM false v0 h) fun v4 h5 =>
 mK (boxM false v2 h5) fun v6 h7 =>
 bK (ldO 9 true h7 v4) fun v8 =>
 mK (calM call 190 [v8] h7) fun v9 h10 =>
 mK (alM (NB.cells [(NV.bool false), (NV.bool false), (NV.bool false), (NV.bool false), (NV.bool false)]) h10) fun v11 h12 =>
 mK (stM 5 v11 v9 h12) fun v13 h14 =>
 bK (fAddr 0 v11) fun v15 =>
 bK (ldO 1 false h14 v15) fun v16 =>
 jK (fun v17 h18 =>
 jK (fun v20 h21 =>
 jK (fun v23 h24 =>
 bK (pickO v16 v23 (NV.bool false)) fun v26 =>
 jK (fun v27 h28 =>
 jK (fun v30 h31 =>
 jK (fun v33 h34 =>
 jK (fun v36 h37 =>
 jK (fun v39 h40 =>
 jK (fun v42 h43 =>
 jK (fun v45 h46 =>
 bK (pickO v26 (NV.bool true) v45) fun v48 =>
 jK (fun v49 h50 =>
 jK (fun v52 h53 =>
 jK (fun v55 h56 =>
 jK (fun v58 h59 =>
 jK (fun v61 h62 =>
 jK (fun v64 h65 =>
 jK (fun v67 h68 =>
 bK (pickO v48 (NV.bool true) v67) fun v70 =>
 jK (fun v71 h72 =>
 jK (fun v74 h75 =>
 jK (fun v77 h78 =>
 jK (fun v80 h81 =>
 jK (fun v83 h84 =>
 jK (fun v86 h87 =>
 jK (fun v89 h90 =>
 bK (pickO v70 (NV.bool true) v89) fun v92 =>
 jK (fun v93 h94 =>
 jK (fun v96 h97 =>
 jK (fun v99 h100 =>
 jK (fun v102 h103 =>
 jK (fun v105 h106 =>
 jK (fun v108 h109 =>
 jK (fun v111 h112 =>
 bK (pickO v92 (NV.bool true) v111) fun v114 =>
 bK (notO v114) fun v115 =>
 retC v115 h112) fun J113 => gK v92 false (
 bK (pickO v99 v108 (NV.bool false)) fun v116 =>
 J113 v116 h109) (J113 (NV.tuple []) h109)) fun J110 => gK v99 true (
 bK (notO v105) fun v117 =>
 J110 v117 h106) (J110 (NV.tuple []) h106)) fun J107 => gK v99 true (
 bK (ldO 1 false h103 v102) fun v118 =>
 J107 v118 h103) (J107 (NV.tuple []) h103)) fun J104 => gK v99 true (
 bK (fAddr 4 v6) fun v119 =>
 J104 v119 h100) (J104 (NV.tuple []) h100)) fun J101 => gK v92 false (
 J101 v96 h97) (J101 (NV.tuple []) h97)) fun J98 => gK v92 false (
 bK (ldO 1 false h94 v93) fun v120 =>
 J98 v120 h94) (J98 (NV.tuple []) h94)) fun J95 => gK v92 false (
 bK (fAddr 4 v11) fun v121 =>
 J95 v121 h90) (J95 (NV.tuple []) h90)) fun J91 => gK v70 false (
 bK (pickO v77 v86 (NV.bool false)) fun v122 =>
 J91 v122 h87) (J91 (NV.tuple []) h87)) fun J88 => gK v77 true (
 bK (notO v83) fun v123 =>
 J88 v123 h84) (J88 (NV.tuple []) h84)) fun J85 => gK v77 true (
 bK (ldO 1 false h81 v80) fun v124 =>
 J85 v124 h81) (J85 (NV.tuple []) h81)) fun J82 => gK v77 true (
 bK (fAddr 3 v6) fun v125 =>
 J82 v125 h78) (J82 (NV.tuple []) h78)) fun J79 => gK v70 false (
 J79 v74 h75) (J79 (NV.tuple []) h75)) fun J76 => gK v70 false (
 bK (ldO 1 false h72 v71) fun v126 =>
 J76 v126 h72) (J76 (NV.tuple []) h72)) fun J73 => gK v70 false (
 bK (fAddr 3 v11) fun v127 =>
 J73 v127 h68) (J73 (NV.tuple []) h68)) fun J69 => gK v48 false (
 bK (pickO v55 v64 (NV.bool false)) fun v128 =>
 J69 v128 h65) (J69 (NV.tuple []) h65)) fun J66 => gK v55 true (
 bK (notO v61) fun v129 =>
 J66 v129 h62) (J66 (NV.tuple []) h62)) fun J63 => gK v55 true (
 bK (ldO 1 false h59 v58) fun v130 =>
 J63 v130 h59) (J63 (NV.tuple []) h59)) fun J60 => gK v55 true (
 bK (fAddr 2 v6) fun v131 =>
 J60 v131 h56) (J60 (NV.tuple []) h56)) fun J57 => gK v48 false (
 J57 v52 h53) (J57 (NV.tuple []) h53)) fun J54 => gK v48 false (
 bK (ldO 1 false h50 v49) fun v132 =>
 J54 v132 h50) (J54 (NV.tuple []) h50)) fun J51 => gK v48 false (
 bK (fAddr 2 v11) fun v133 =>
 J51 v133 h46) (J51 (NV.tuple []) h46)) fun J47 => gK v26 false (
 bK (pickO v33 v42 (NV.bool false)) fun v134 =>
 J47 v134 h43) (J47 (NV.tuple []) h43)) fun J44 => gK v33 true (
 bK (notO v39) fun v135 =>
 J44 v135 h40) (J44 (NV.tuple []) h40)) fun J41 => gK v33 true (
 bK (ldO 1 false h37 v36) fun v136 =>
 J41 v136 h37) (J41 (NV.tuple []) h37)) fun J38 => gK v33 true (
 bK (fAddr 1 v6) fun v137 =>
 J38 v137 h34) (J38 (NV.tuple []) h34)) fun J35 => gK v26 false (
 J35 v30 h31) (J35 (NV.tuple []) h31)) fun J32 => gK v26 false (
 bK (ldO 1 false h28 v27) fun v138 =>
 J32 v138 h28) (J32 (NV.tuple []) h28)) fun J29 => gK v26 false (
 bK (fAddr 1 v11) fun v139 =>
 J29 v139 h24) (J29 (NV.tuple []) h24)) fun J25 => gK v16 true (
 bK (notO v20) fun v140 =>
 J25 v140 h21) (J25 (NV.tuple []) h21)) fun J22 => gK v16 true (
 bK (ldO 1 false h18 v17) fun v141 =>
 J22 v141 h18) (J22 (NV.tuple []) h18)) fun J19 => gK v16 true (
 bK (fAddr 0 v6) fun v142 =>
 J19 v142 h14) (J19 (NV.tuple []) h14))
theorem e169 : ikB Tryz.prog 6 Tryz.f169 = S169 := by kernel_rfl
theorem k169 (w0 : World) : SOK cW w0 169 S169 := okW Tryz.func169 (by kernel_rfl) e169
noncomputable def S170 (call : CallF) (N : Nat) (l : List NV) (h : H) : R :=
 uc l fun v0 l1 => un l1 (
 bK (geI v0 (NV.int .i64 (.ofNat 0))) fun v2 =>
 jK (fun v3 h4 =>
 jK (fun v6 h7 =>
 bK (pickO v2 v6 (NV.bool false)) fun v9 =>
 retC v9 h7) fun J8 => gK v2 true (
 bK (ltI v3 (NV.int .i64 (.ofNat 256))) fun v10 =>
 J8 v10 h4) (J8 (NV.tuple []) h4)) fun J5 => gK v2 true (
 J5 v0 h) (J5 (NV.tuple []) h))
theorem e170 : ikB Tryz.prog 6 Tryz.f170 = S170 := by kernel_rfl
theorem k170 (w0 : World) : SOK cW w0 170 S170 := okW Tryz.func170 (by kernel_rfl) e170
noncomputable def S176 (call : CallF) (N : Nat) (l : List NV) (h : H) : R :=
 uc l fun v0 l1 => uc l1 fun v2 l3 => un l3 (
 mK (calM call 189 [v0] h) fun v4 h5 =>
 mK (calM call 191 [v4] h5) fun v6 h7 =>
 bK (lenSl v6) fun v8 =>
 bK (ltI v2 v8) fun v9 =>
 condK v9 (
 bK (ixS 1 v6 v2) fun v10 =>
 bK (ldO 1 false h7 v10) fun v11 =>
 retC v11 h7) (
 retC (NV.str 0 0) h7))
theorem e176 : ikB Tryz.prog 6 Tryz.f176 = S176 := by kernel_rfl
theorem k176 (w0 : World) : SOK cW w0 176 S176 := okW Tryz.func176 (by kernel_rfl) e176
noncomputable def S192 (call : CallF) (N : Nat) (l : List NV) (h : H) : R :=
 uc l fun v0 l1 => uc l1 fun v2 l3 => un l3 (
 mK (calM call 160 [v0, v2] h) fun v4 h5 =>
 bK (notO v4) fun v6 =>
 condK v6 (
 retC (NV.tuple [v0, (NV.bool false)]) h5) (
 bK (lenStr v2) fun v7 =>
 bK (slStr v0 (some v7) none) fun v8 =>
 retC (NV.tuple [v8, (NV.bool true)]) h5))
theorem e192 : ikB Tryz.prog 6 Tryz.f192 = S192 := by kernel_rfl
theorem k192 (w0 : World) : SOK cW w0 192 S192 := okW Tryz.func192 (by kernel_rfl) e192
noncomputable def S193 (call : CallF) (N : Nat) (l : List NV) (h : H) : R :=
 uc l fun v0 l1 => uc l1 fun v2 l3 => un l3 (
 mK (calM call 209 [v0, v2] h) fun v4 h5 =>
 bK (geI v4 (NV.int .i64 (.ofNat 0))) fun v6 =>
 condK v6 (
 bK (slStr v0 none (some v4)) fun v7 =>
 bK (lenStr v2) fun v8 =>
 bK (addI v4 v8) fun v9 =>
 bK (slStr v0 (some v9) none) fun v10 =>
 retC (NV.tuple [v7, v10, (NV.bool true)]) h5) (
 retC (NV.tuple [v0, (NV.str 0 0), (NV.bool false)]) h5))
theorem e193 : ikB Tryz.prog 6 Tryz.f193 = S193 := by kernel_rfl
theorem k193 (w0 : World) : SOK cW w0 193 S193 := okW Tryz.func193 (by kernel_rfl) e193
noncomputable def S194 (call : CallF) (N : Nat) (l : List NV) (h : H) : R :=
 uc l fun v0 l1 => uc l1 fun v2 l3 => un l3 (
 mK (calM call 210 [v0, v2] h) fun v4 h5 =>
 retC v4 h5)
theorem e194 : ikB Tryz.prog 6 Tryz.f194 = S194 := by kernel_rfl
theorem k194 (w0 : World) : SOK cW w0 194 S194 := okW Tryz.func194 (by kernel_rfl) e194
noncomputable def S195 (call : CallF) (N : Nat) (l : List NV) (h : H) : R :=
 uc l fun v0 l1 => uc l1 fun v2 l3 => uc l3 fun v4 l5 => un l5 (
 mK (calM call 211 [v0, v2, v4, (NV.int .i64 (.negSucc 0))] h) fun v6 h7 =>
 retC v6 h7)
theorem e195 : ikB Tryz.prog 6 Tryz.f195 = S195 := by kernel_rfl
theorem k195 (w0 : World) : SOK cW w0 195 S195 := okW Tryz.func195 (by kernel_rfl) e195
noncomputable def S196 (call : CallF) (N : Nat) (l : List NV) (h : H) : R :=
 uc l fun v0 l1 => uc l1 fun v2 l3 => un l3 (
 mK (calM call 212 [v0, v2] h) fun v4 h5 =>
 retC v4 h5)
theorem e196 : ikB Tryz.prog 6 Tryz.f196 = S196 := by kernel_rfl
theorem k196 (w0 : World) : SOK cW w0 196 S196 := okW Tryz.func196 (by kernel_rfl) e196
noncomputable def S197 (call : CallF) (N : Nat) (l : List NV) (h : H) : R :=
 uc l fun v0 l1 => uc l1 fun v2 l3 => un l3 (
 mK (calM call 213 [v0, v2] h) fun v4 h5 =>
 bK (geI v4 (NV.int .i64 (.ofNat 0))) fun v6 =>
 retC v6 h5)
theorem e197 : ikB Tryz.prog 6 Tryz.f197 = S197 := by kernel_rfl
theorem k197 (w0 : World) : SOK cW w0 197 S197 := okW Tryz.func197 (by kernel_rfl) e197
noncomputable def S198 (call : CallF) (N : Nat) (l : List NV) (h : H) : R :=
 uc l fun v0 l1 => un l1 (
 bK (leI v0 (NV.int .i32 (.ofNat 57))) fun v2 =>
 condK v2 (
 bK (subI v0 (NV.int .i32 (.ofNat 48))) fun v3 =>
 bK (cvI .u64 v3) fun v4 =>
 retC v4 h) (
 bK (leI v0 (NV.int .i32 (.ofNat 70))) fun v5 =>
 condK v5 (
 bK (subI v0 (NV.int .i32 (.ofNat 65))) fun v6 =>
 bK (addI v6 (NV.int .i32 (.ofNat 10))) fun v7 =>
 bK (cvI .u64 v7) fun v8 =>
 retC v8 h) (
 bK (subI v0 (NV.int .i32 (.ofNat 97))) fun v9 =>
 bK (addI v9 (NV.int .i32 (.ofNat 10))) fun v10 =>
 bK (cvI .u64 v10) fun v11 =>
 retC v11 h)))
theorem e198 : ikB Tryz.prog 6 Tryz.f198 = S198 := by kernel_rfl
theorem k198 (w0 : World) : SOK cW w0 198 S198 := okW Tryz.func198 (by kernel_rfl) e198
noncomputable def S199 (call : CallF) (N : Nat) (l : List NV) (h : H) : R :=
 uc l fun v0 l1 => un l1 (
 bK (binO .neq v0 (NV.str 0 0)) fun v2 =>
 joinC 0 (fun h3 =>
 retC (NV.tuple [(NV.int .i64 (.ofNat 0)), (NV.bool false)]) h3) fun J4 =>
 condK v2 (
 mK (calM call 214 [] h) fun v5 h6 =>
 bK (lenSl v5) fun v7 =>
 loopC N 4 (fun L13 v8 v9 v10 v11 h12 =>
 bK (ltI v11 v10) fun v14 =>
 condK v14 (
 bK (ixS 1 v9 v11) fun v15 =>
 bK (ldO 1 false h12 v15) fun v16 =>
 mK (calM call 215 [v16] h12) fun v17 h18 =>
 bK (binO .eql v17 v8) fun v19 =>
 condK v19 (
 retC (NV.tuple [v16, (NV.bool true)]) h18) (
 bK (addI v11 (NV.int .i64 (.ofNat 1))) fun v20 =>
 L13 v8 v9 v10 v20 h18)) (
 J4 h12)) v0 v5 v7 (NV.int .i64 (.ofNat 0)) h6) (
 J4 h))
theorem e199 : ikB Tryz.prog 6 Tryz.f199 = S199 := by kernel_rfl
theorem k199 (w0 : World) : SOK cW w0 199 S199 := okW Tryz.func199 (by kernel_rfl) e199
noncomputable def S200 (call : CallF) (N : Nat) (l : List NV) (h : H) : R :=
 uc l fun v0 l1 => uc l1 fun v2 l3 => uc l3 fun v4 l5 => un l5 (
 bK (nilO v2) fun v6 =>
 bK (fAddr 0 v6) fun v7 =>
 bK (ldO 1 false h v7) fun v8 =>
 bK (nilO v8) fun v9 =>
 bK (fAddr 11 v9) fun v10 =>
 bK (ixA 7 1 v10 (NV.int .i64 (.ofNat 1))) fun v11 =>
 bK (ldO 1 false h v11) fun v12 =>
 bK (nilO v4) fun v13 =>
 bK (fAddr 0 v13) fun v14 =>
 bK (ldO 1 false h v14) fun v15 =>
 mK (calM call 149 [v15] h) fun v16 h17 =>
 bK (eqI v16 (NV.int .i64 (.ofNat 0))) fun v18 =>
 joinC 7 (fun v19 v20 v21 v22 v23 v24 v25 h26 =>
 condK v25 (
 mK (calM call 216 [v19, v20, v21] h26) fun v28 h29 =>
 retC (NV.tuple []) h29) (
 bK (eqI v24 (NV.int .i64 (.ofNat 2))) fun v30 =>
 condK v30 (
 mK (calM call 217 [v19, v20] h26) fun v31 h32 =>
 bK (nilO v21) fun v33 =>
 bK (fAddr 1 v33) fun v34 =>
 mK (stM 1 v34 v31 h32) fun v35 h36 =>
 retC (NV.tuple []) h36) (
 bK (eqI v24 (NV.int .i64 (.ofNat 3))) fun v37 =>
 condK v37 (
 joinC 2 (fun v38 v39 h40 =>
 bK (nilO v38) fun v42 =>
 bK (fAddr 0 v42) fun v43 =>
 bK (ldO 1 false h40 (chkV h40 v43)) fun v44 =>
 bK (nilO v39) fun v45 =>
 bK (fAddr 5 v45) fun v46 =>
 bK (ldO 1 false h40 (chkV h40 v46)) fun v47 =>
 bK (lenSl v47) fun v48 =>
 bK (gtI v48 (NV.int .i64 (.ofNat 0))) fun v49 =>
 mK (calM call 31 [(chkV h40 v44), (chkV h40 v49)] h40) fun v50 h51 =>
 nextK h40 h51 (
 bK (nilO v39) fun v52 =>
 bK (fAddr 5 v52) fun v53 =>
 bK (ldO 1 false h51 v53) fun v54 =>
 bK (lenSl v54) fun v55 =>
 bK (subI v55 (NV.int .i64 (.ofNat 1))) fun v56 =>
 bK (geI v56 (NV.int .i64 (.ofNat 0))) fun v57 =>
 condK v57 (
 bK (nilO v39) fun v58 =>
 bK (fAddr 5 v58) fun v59 =>
 bK (ldO 1 false h51 (chkV h51 v59)) fun v60 =>
 bK (ixS 1 v60 v56) fun v61 =>
 bK (ldO 1 false h51 (chkV h51 v61)) fun v62 =>
 bK (nilO v39) fun v63 =>
 bK (fAddr 5 v63) fun v64 =>
 bK (ldO 1 false h51 (chkV h51 v64)) fun v65 =>
 bK (slcO Tryz.prog 41 h51 (chkV h51 v65) none (some (chkV h51 v56)) none) fun v66 =>
 bK (nilO v39) fun v67 =>
 bK (fAddr 1 v67) fun v68 =>
 mK (stM 1 (chkV h51 v68) (chkV h51 v62) h51) fun v69 h70 =>
 nextK h51 h70 (
 bK (nilO v39) fun v71 =>
 bK (fAddr 5 v71) fun v72 =>
 bK (slcO Tryz.prog 41 h70 (chkV h70 v65) none (some (chkV h70 v56)) none) fun v73 =>
 sameK v73 v66 (
 mK (stM 1 (chkV h70 v72) (chkV h70 v66) h70) fun v74 h75 =>
 nextK h70 h75 (
 retC (NV.tuple []) h75)))) (
 retC (NV.tuple []) h51))) fun J41 =>
 loopC N 3 (fun L80 v76 v77 v78 h79 =>
 mK (calM call 163 [v77] h79) fun v81 h82 =>
 jK (fun v83 h84 =>
 jK (fun v86 h87 =>
 jK (fun v89 h90 =>
 jK (fun v92 h93 =>
 jK (fun v95 h96 =>
 jK (fun v98 h99 =>
 jK (fun v101 h102 =>
 jK (fun v104 h105 =>
 bK (pickO v81 v104 (NV.bool false)) fun v107 =>
 condK v107 (
 bK (nilO v78) fun v108 =>
 bK (fAddr 5 v108) fun v109 =>
 bK (ldO 1 false h105 (chkV h105 v109)) fun v110 =>
 mK (calM call 217 [(chkV h105 v76), (chkV h105 v77)] h105) fun v111 h112 =>
 nextK h105 h112 (
 bK (ldO 1 false h112 (chkV h112 v109)) fun v113 =>
 sameK v113 v110 (
 mK (bslM 1 false [(0, 1)] [(NV.int .i64 (.ofNat 0))] [(chkV h112 v111)] h112) fun v114 h115 =>
 mK (appM Tryz.prog 3 (chkV h115 v110) (chkV h115 v114) h115) fun v116 h117 =>
 nextK h115 h117 (
 bK (nilO v78) fun v118 =>
 bK (fAddr 5 v118) fun v119 =>
 mK (stM 1 (chkV h117 v119) (chkV h117 v116) h117) fun v120 h121 =>
 nextK h117 h121 (
 L80 v76 v77 v78 h121))))) (
 J41 v77 v78 h105)) fun J106 => gK v81 true (
 bK (notO v101) fun v122 =>
 J106 v122 h102) (J106 (NV.tuple []) h102)) fun J103 => gK v81 true (
 bK (ldO 1 false h99 v98) fun v123 =>
 J103 v123 h99) (J103 (NV.tuple []) h99)) fun J100 => gK v81 true (
 bK (fAddr 26 v95) fun v124 =>
 J100 v124 h96) (J100 (NV.tuple []) h96)) fun J97 => gK v81 true (
 bK (nilO v92) fun v125 =>
 J97 v125 h93) (J97 (NV.tuple []) h93)) fun J94 => gK v81 true (
 bK (ldO 1 false h90 v89) fun v126 =>
 J94 v126 h90) (J94 (NV.tuple []) h90)) fun J91 => gK v81 true (
 bK (fAddr 0 v86) fun v127 =>
 J91 v127 h87) (J91 (NV.tuple []) h87)) fun J88 => gK v81 true (
 bK (nilO v83) fun v128 =>
 J88 v128 h84) (J88 (NV.tuple []) h84)) fun J85 => gK v81 true (
 J85 v77 h82) (J85 (NV.tuple []) h82)) v19 v20 v21 h26) (
 bK (eqI v24 (NV.int .i64 (.ofNat 5))) fun v129 =>
 condK v129 (
 mK (calM call 163 [v20] h26) fun v130 h131 =>
 joinC 2 (fun v132 v133 h134 =>
 mK (calM call 108 [v132, (NV.bool false)] h134) fun v136 h137 =>
 bK (extO 0 v136) fun v138 =>
 bK (extO 1 v136) fun v139 =>
 bK (extO 2 v136) fun v140 =>
 bK (nilO v133) fun v141 =>
 bK (fAddr 1 v141) fun v142 =>
 mK (stM 1 v142 v138 h137) fun v143 h144 =>
 retC (NV.tuple []) h144) fun J135 =>
 condK v130 (
 mK (calM call 51 [v20, v22] h131) fun v145 h146 =>
 bK (nilO v21) fun v147 =>
 bK (fAddr 2 v147) fun v148 =>
 mK (stM 1 v148 v145 h146) fun v149 h150 =>
 J135 v20 v21 h150) (
 J135 v20 v21 h131)) (
 bK (eqI v24 (NV.int .i64 (.ofNat 9))) fun v151 =>
 condK v151 (
 mK (calM call 163 [v20] h26) fun v152 h153 =>
 condK v152 (
 mK (calM call 51 [v20, v22] h153) fun v154 h155 =>
 bK (nilO v21) fun v156 =>
 bK (fAddr 1 v156) fun v157 =>
 mK (stM 1 v157 v154 h155) fun v158 h159 =>
 retC (NV.tuple []) h159) (
 retC (NV.tuple []) h153)) (
 bK (eqI v24 (NV.int .i64 (.ofNat 20))) fun v160 =>
 condK v160 (
 bK (nilO v20) fun v161 =>
 bK (fAddr 1 v161) fun v162 =>
 bK (ldO 1 false h26 (chkV h26 v162)) fun v163 =>
 bK (lenSl v163) fun v164 =>
 bK (gtI v164 (NV.int .i64 (.ofNat 1))) fun v165 =>
 jK (fun v166 h167 =>
 jK (fun v169 h170 =>
 jK (fun v172 h173 =>
 jK (fun v175 h176 =>
 jK (fun v178 h179 =>
 jK (fun v181 h182 =>
 jK (fun v184 h185 =>
 jK (fun v187 h188 =>
 jK (fun v190 h191 =>
 jK (fun v193 h194 =>
 jK (fun v196 h197 =>
 jK (fun v199 h200 =>
 nextK h197 h200 (
 bK (pickO v165 v199 (NV.bool false)) fun v202 =>
 jK (fun v203 h204 =>
 jK (fun v206 h207 =>
 nextK h200 h207 (
 bK (pickO v202 v206 (NV.bool false)) fun v209 =>
 joinC 2 (fun v210 v211 h212 =>
 bK (nilO v210) fun v214 =>
 bK (fAddr 0 v214) fun v215 =>
 bK (ldO 1 false h212 v215) fun v216 =>
 bK (nilO v216) fun v217 =>
 bK (fAddr 11 v217) fun v218 =>
 bK (ixA 7 1 v218 (NV.int .i64 (.ofNat 5))) fun v219 =>
 bK (ldO 1 false h212 v219) fun v220 =>
 mK (calM call 51 [v210, v220] h212) fun v221 h222 =>
 bK (nilO v211) fun v223 =>
 bK (fAddr 1 v223) fun v224 =>
 mK (stM 1 v224 v221 h222) fun v225 h226 =>
 retC (NV.tuple []) h226) fun J213 =>
 condK v209 (
 mK (calM call 51 [v20, v22] h207) fun v227 h228 =>
 bK (nilO v21) fun v229 =>
 bK (fAddr 2 v229) fun v230 =>
 mK (stM 1 v230 v227 h228) fun v231 h232 =>
 J213 v20 v21 h232) (
 J213 v20 v21 h207))) fun J208 => gK v202 true (
 mK (calM call 163 [(chkV h200 v203)] h200) fun v233 h234 =>
 J208 v233 h234) (J208 (NV.tuple []) h200)) fun J205 => gK v202 true (
 J205 v20 h200) (J205 (NV.tuple []) h200))) fun J201 => gK v165 true (
 mK (calM call 163 [(chkV h197 v196)] h197) fun v235 h236 =>
 J201 v235 h236) (J201 (NV.tuple []) h197)) fun J198 => gK v165 true (
 mK (boxM false (chkV h26 v193) h26) fun v237 h238 =>
 J198 v237 h238) (J198 (NV.tuple []) h26)) fun J195 => gK v165 true (
 bK (bldO [(0, 1), (1, 1)] [NV.nilptr, NV.nslice] [v175, v190]) fun v239 =>
 J195 v239 h26) (J195 (NV.tuple []) h26)) fun J192 => gK v165 true (
 bK (slcO Tryz.prog 53 h26 (chkV h26 v187) (some (NV.int .i64 (.ofNat 1))) none none) fun v240 =>
 J192 v240 h26) (J192 (NV.tuple []) h26)) fun J189 => gK v165 true (
 bK (ldO 1 false h26 (chkV h26 v184)) fun v241 =>
 J189 v241 h26) (J189 (NV.tuple []) h26)) fun J186 => gK v165 true (
 bK (fAddr 1 v181) fun v242 =>
 J186 v242 h26) (J186 (NV.tuple []) h26)) fun J183 => gK v165 true (
 bK (nilO v178) fun v243 =>
 J183 v243 h26) (J183 (NV.tuple []) h26)) fun J180 => gK v165 true (
 J180 v20 h26) (J180 (NV.tuple []) h26)) fun J177 => gK v165 true (
 bK (ldO 1 false h26 (chkV h26 v172)) fun v244 =>
 J177 v244 h26) (J177 (NV.tuple []) h26)) fun J174 => gK v165 true (
 bK (fAddr 0 v169) fun v245 =>
 J174 v245 h26) (J174 (NV.tuple []) h26)) fun J171 => gK v165 true (
 bK (nilO v166) fun v246 =>
 J171 v246 h26) (J171 (NV.tuple []) h26)) fun J168 => gK v165 true (
 J168 v20 h26) (J168 (NV.tuple []) h26)) (
 bK (eqI v24 (NV.int .i64 (.ofNat 22))) fun v247 =>
 condK v247 (
 mK (calM call 163 [v20] h26) fun v248 h249 =>
 condK v248 (
 mK (calM call 51 [v20, v22] h249) fun v250 h251 =>
 bK (nilO v21) fun v252 =>
 bK (fAddr 1 v252) fun v253 =>
 mK (stM 1 v253 v250 h251) fun v254 h255 =>
 mK (calM call 51 [v20, v22] h255) fun v256 h257 =>
 bK (nilO v21) fun v258 =>
 bK (fAddr 2 v258) fun v259 =>
 mK (stM 1 v259 v256 h257) fun v260 h261 =>
 retC (NV.tuple []) h261) (
 retC (NV.tuple []) h249)) (
 bK (eqI v24 (NV.int .i64 (.ofNat 10))) fun v262 =>
 condK v262 (
 mK (calM call 218 [v20, v21] h26) fun v263 h264 =>
 retC (NV.tuple []) h264) (
 bK (eqI v24 (NV.int .i64 (.ofNat 26))) fun v265 =>
 condK v265 (
 mK (calM call 218 [v20, v21] h26) fun v266 h267 =>
 mK (calM call 158 [v20, (NV.int .i64 (.ofNat 8))] h267) fun v268 h269 =>
 mK (bslM 1 false [(0, 1)] [(NV.int .i64 (.ofNat 0))] [v268] h269) fun v270 h271 =>
 bK (nilO v21) fun v272 =>
 bK (fAddr 5 v272) fun v273 =>
 mK (stM 1 v273 v270 h271) fun v274 h275 =>
 retC (NV.tuple []) h275) (
 bK (eqI v24 (NV.int .i64 (.ofNat 16))) fun v276 =>
 condK v276 (
 mK (calM call 112 [v20] h26) fun v277 h278 =>
 bK (binO .add v277 (NV.str 3 6710642)) fun v279 =>
 mK (calM call 107 [v279] h278) fun v280 h281 =>
 bK (extO 0 v280) fun v282 =>
 bK (extO 1 v280) fun v283 =>
 bK (nilO v20) fun v284 =>
 bK (fAddr 0 v284) fun v285 =>
 bK (ldO 1 false h281 v285) fun v286 =>
 mK (calM call 31 [v286, v283] h281) fun v287 h288 =>
 bK (nilO v21) fun v289 =>
 bK (fAddr 1 v289) fun v290 =>
 mK (stM 1 v290 v282 h288) fun v291 h292 =>
 retC (NV.tuple []) h292) (
 bK (eqI v24 (NV.int .i64 (.ofNat 24))) fun v293 =>
 condK v293 (
 loopC N 3 (fun L298 v294 v295 v296 h297 =>
 bK (ltI v296 (NV.int .i64 (.ofNat 16))) fun v299 =>
 condK v299 (
 bK (nilO v295) fun v300 =>
 bK (fAddr 5 v300) fun v301 =>
 bK (ldO 1 false h297 (chkV h297 v301)) fun v302 =>
 mK (calM call 158 [(chkV h297 v294), (NV.int .i64 (.ofNat 8))] h297) fun v303 h304 =>
 nextK h297 h304 (
 bK (ldO 1 false h304 (chkV h304 v301)) fun v305 =>
 sameK v305 v302 (
 mK (bslM 1 false [(0, 1)] [(NV.int .i64 (.ofNat 0))] [(chkV h304 v303)] h304) fun v306 h307 =>
 mK (appM Tryz.prog 3 (chkV h307 v302) (chkV h307 v306) h307) fun v308 h309 =>
 nextK h307 h309 (
 bK (nilO v295) fun v310 =>
 bK (fAddr 5 v310) fun v311 =>
 mK (stM 1 (chkV h309 v311) (chkV h309 v308) h309) fun v312 h313 =>
 nextK h309 h313 (
 bK (addI v296 (NV.int .i64 (.ofNat 1))) fun v314 =>
 L298 v294 v295 v314 h313))))) (
 retC (NV.tuple []) h297)) v20 v21 (NV.int .i64 (.ofNat 0)) h26) (
 bK (eqI v24 (NV.int .i64 (.ofNat 25))) fun v315 =>
 condK v315 (
 mK (calM call 158 [v20, (NV.int .i64 (.ofNat 8))] h26) fun v316 h317 =>
 bK (nilO v21) fun v318 =>
 bK (fAddr 1 v318) fun v319 =>
 mK (stM 1 v319 v316 h317) fun v320 h321 =>
 retC (NV.tuple []) h321) (
 bK (eqI v24 (NV.int .i64 (.ofNat 12))) fun v322 =>
 joinC 5 (fun v323 v324 v325 v326 v327 h328 =>
 condK v327 (
 mK (calM call 219 [v323, v324, v325, v326] h328) fun v330 h331 =>
 retC (NV.tuple []) h331) (
 mK (calM call 220 [v323, v324, v326] h328) fun v332 h333 =>
 mK (calM call 51 [v324, v332] h333) fun v334 h335 =>
 bK (nilO v325) fun v336 =>
 bK (fAddr 1 v336) fun v337 =>
 mK (stM 1 v337 v334 h335) fun v338 h339 =>
 retC (NV.tuple []) h339)) fun J329 =>
 condK v322 (
 J329 v19 v20 v21 v23 v322 h26) (
 bK (eqI v24 (NV.int .i64 (.ofNat 13))) fun v340 =>
 condK v340 (
 J329 v19 v20 v21 v23 v340 h26) (
 bK (eqI v24 (NV.int .i64 (.ofNat 14))) fun v341 =>
 condK v341 (
 J329 v19 v20 v21 v23 v341 h26) (
 bK (eqI v24 (NV.int .i64 (.ofNat 15))) fun v342 =>
 condK v342 (
 J329 v19 v20 v21 v23 v342 h26) (
 bK (eqI v24 (NV.int .i64 (.ofNat 23))) fun v343 =>
 J329 v19 v20 v21 v23 v343 h26))))))))))))))))) fun J27 =>
 condK v18 (
 J27 v0 v2 v4 v12 v16 v16 v18 h17) (
 bK (eqI v16 (NV.int .i64 (.ofNat 11))) fun v344 =>
 condK v344 (
 J27 v0 v2 v4 v12 v16 v16 v344 h17) (
 bK (eqI v16 (NV.int .i64 (.ofNat 19))) fun v345 =>
 J27 v0 v2 v4 v12 v16 v16 v345 h17)))
theorem e200 : ikB Tryz.prog 6 Tryz.f200 = S200 := by kernel_rfl
theorem k200 (w0 : World) : SOK cW w0 200 S200 := okW Tryz.func200 (by kernel_rfl) e200
noncomputable def S201 (call : CallF) (N : Nat) (l : List NV) (h : H) : R :=
 uc l fun v0 l1 => uc l1 fun v2 l3 => uc l3 fun v4 l5 => un l5 (
 mK (calM call 29 [v2] h) fun v6 h7 =>
 bK (binO .neq v6 (NV.str 4 1701869940)) fun v8 =>
 joinC 2 (fun v9 v10 h11 =>
 bK (nilO v10) fun v13 =>
 bK (fAddr 1 v13) fun v14 =>
 mK (stM 1 v14 (NV.int .i64 (.ofNat 2)) h11) fun v15 h16 =>
 mK (calM call 108 [v9, (NV.bool false)] h16) fun v17 h18 =>
 bK (extO 0 v17) fun v19 =>
 bK (extO 1 v17) fun v20 =>
 bK (extO 2 v17) fun v21 =>
 bK (nilO v10) fun v22 =>
 bK (fAddr 2 v22) fun v23 =>
 mK (stM 1 v23 v19 h18) fun v24 h25 =>
 retC (NV.tuple []) h25) fun J12 =>
 condK v8 (
 bK (nilO v2) fun v26 =>
 bK (fAddr 0 v26) fun v27 =>
 bK (ldO 1 false h7 (chkV h7 v27)) fun v28 =>
 bK (nilO v28) fun v29 =>
 bK (fAddr 0 v29) fun v30 =>
 bK (ldO 11 true h7 (chkV h7 v30)) fun v31 =>
 bK (bldO [(0, 11)] [NV.nslice, NV.nslice, NV.nslice, NV.nslice, NV.nslice, NV.nslice, NV.nslice, (NV.int .i64 (.ofNat 0)), NV.nslice, NV.nslice, (NV.bool false), NV.nmap, NV.nmap, NV.nmap, NV.nmap, NV.nmap, NV.nmap, NV.nmap, (NV.int .i64 (.ofNat 0)), (NV.int .i64 (.ofNat 0)), (NV.int .i64 (.ofNat 0)), (NV.int .i64 (.ofNat 0)), (NV.int .i64 (.ofNat 0)), (NV.int .i64 (.ofNat 0)), (NV.int .i64 (.ofNat 0)), (NV.bool false), (NV.bool false)] [v31]) fun v32 =>
 bK (nilO v2) fun v33 =>
 bK (fAddr 1 v33) fun v34 =>
 bK (ldO 1 false h7 (chkV h7 v34)) fun v35 =>
 mK (boxM false (chkV h7 v32) h7) fun v36 h37 =>
 bK (bldO [(0, 1), (1, 1)] [NV.nilptr, NV.nslice] [v36, v35]) fun v38 =>
 mK (boxM false (chkV h37 v38) h37) fun v39 h40 =>
 mK (calM call 46 [(chkV h40 v39), (NV.bool false)] h40) fun v41 h42 =>
 nextK h40 h42 (
 bK (extO 0 v41) fun v43 =>
 bK (extO 1 v41) fun v44 =>
 bK (extO 2 v41) fun v45 =>
 mK (alM (NB.cells [NV.nslice, NV.nslice]) h42) fun v46 h47 =>
 mK (stM 2 (chkV h47 v46) (chkV h47 v44) h47) fun v48 h49 =>
 nextK h47 h49 (
 bK (notO v43) fun v50 =>
 jK (fun v51 h52 =>
 jK (fun v54 h55 =>
 jK (fun v57 h58 =>
 jK (fun v60 h61 =>
 jK (fun v63 h64 =>
 jK (fun v66 h67 =>
 jK (fun v69 h70 =>
 jK (fun v72 h73 =>
 jK (fun v75 h76 =>
 jK (fun v78 h79 =>
 bK (pickO v50 (NV.bool true) v78) fun v81 =>
 condK v81 (
 mK (calM call 46 [v2, (NV.bool false)] h79) fun v82 h83 =>
 bK (extO 0 v82) fun v84 =>
 bK (extO 1 v82) fun v85 =>
 bK (extO 2 v82) fun v86 =>
 mK (stM 2 v46 v85 h83) fun v87 h88 =>
 bK (fAddr 1 v46) fun v89 =>
 bK (ldO 1 false h88 v89) fun v90 =>
 bK (lenSl v90) fun v91 =>
 bK (eqI v91 (NV.int .i64 (.ofNat 1))) fun v92 =>
 joinC 0 (fun h93 =>
 retC (NV.tuple []) h93) fun J94 =>
 condK v92 (
 bK (fAddr 1 v46) fun v95 =>
 bK (ldO 1 false h88 v95) fun v96 =>
 bK (ixS 1 v96 (NV.int .i64 (.ofNat 0))) fun v97 =>
 bK (ldO 1 false h88 v97) fun v98 =>
 bK (nilO v4) fun v99 =>
 bK (fAddr 1 v99) fun v100 =>
 mK (stM 1 v100 (NV.int .i64 (.ofNat 1)) h88) fun v101 h102 =>
 bK (nilO v4) fun v103 =>
 bK (fAddr 2 v103) fun v104 =>
 mK (stM 1 v104 v98 h102) fun v105 h106 =>
 J94 h106) (
 J94 h88)) (
 J12 v2 v4 h79)) fun J80 => gK v50 false (
 bK (pickO v63 v75 (NV.bool false)) fun v107 =>
 J80 v107 h76) (J80 (NV.tuple []) h76)) fun J77 => gK v63 true (
 bK (leI v72 (NV.int .i64 (.ofNat 1))) fun v108 =>
 J77 v108 h73) (J77 (NV.tuple []) h73)) fun J74 => gK v63 true (
 bK (lenSl v69) fun v109 =>
 J74 v109 h70) (J74 (NV.tuple []) h70)) fun J71 => gK v63 true (
 bK (ldO 1 false h67 v66) fun v110 =>
 J71 v110 h67) (J71 (NV.tuple []) h67)) fun J68 => gK v63 true (
 bK (fAddr 1 v46) fun v111 =>
 J68 v111 h64) (J68 (NV.tuple []) h64)) fun J65 => gK v50 false (
 J65 v60 h61) (J65 (NV.tuple []) h61)) fun J62 => gK v50 false (
 bK (eqI v57 (NV.int .i64 (.ofNat 0))) fun v112 =>
 J62 v112 h58) (J62 (NV.tuple []) h58)) fun J59 => gK v50 false (
 bK (lenSl v54) fun v113 =>
 J59 v113 h55) (J59 (NV.tuple []) h55)) fun J56 => gK v50 false (
 bK (ldO 1 false h52 v51) fun v114 =>
 J56 v114 h52) (J56 (NV.tuple []) h52)) fun J53 => gK v50 false (
 bK (fAddr 0 v46) fun v115 =>
 J53 v115 h49) (J53 (NV.tuple []) h49)))) (
 J12 v2 v4 h7))
theorem e201 : ikB Tryz.prog 6 Tryz.f201 = S201 := by kernel_rfl
theorem k201 (w0 : World) : SOK cW w0 201 S201 := okW Tryz.func201 (by kernel_rfl) e201
noncomputable def S202 (call : CallF) (N : Nat) (l : List NV) (h : H) : R :=
 uc l fun v0 l1 => uc l1 fun v2 l3 => un l3 (
 bK (ldO 1 false h v0) fun v4 =>
 mK (calM call 13 [v4] h) fun v5 h6 =>
 bK (binO .neq v5 (NV.str 0 0)) fun v7 =>
 condK v7 (
 bK (ldO 1 false h6 (chkV h6 v0)) fun v8 =>
 bK (nilO v8) fun v9 =>
 bK (fAddr 0 v9) fun v10 =>
 bK (ldO 1 false h6 (chkV h6 v10)) fun v11 =>
 bK (ldO 1 false h6 (chkV h6 v2)) fun v12 =>
 bK (binO .eql v5 v12) fun v13 =>
 mK (calM call 31 [(chkV h6 v11), (chkV h6 v13)] h6) fun v14 h15 =>
 nextK h6 h15 (
 retC (NV.tuple []) h15)) (
 retC (NV.tuple []) h6))
theorem e202 : ikB Tryz.prog 6 Tryz.f202 = S202 := by kernel_rfl
theorem k202 (w0 : World) : SOK cW w0 202 S202 := okW Tryz.func202 (by kernel_rfl) e202
noncomputable def S203 (call : CallF) (N : Nat) (l : List NV) (h : H) : R :=
 uc l fun v0 l1 => uc l1 fun v2 l3 => un l3 (
 bK (bldO [(0, 1)] [(NV.int .i64 (.ofNat 0)), (NV.int .i64 (.ofNat 0)), (NV.int .i64 (.ofNat 0)), (NV.int .u64 (.ofNat 0)), (NV.int .u64 (.ofNat 0)), NV.nslice, NV.nslice, NV.nslice, (NV.bool false)] [(NV.int .i64 (.ofNat 4))]) fun v4 =>
 mK (alM (NB.cells [(NV.int .i64 (.ofNat 0)), (NV.int .i64 (.ofNat 0)), (NV.int .i64 (.ofNat 0)), (NV.int .u64 (.ofNat 0)), (NV.int .u64 (.ofNat 0)), NV.nslice, NV.nslice, NV.nslice, (NV.bool false)]) h) fun v5 h6 =>
 mK (stM 9 v5 v4 h6) fun v7 h8 =>
 mK (calM call 13 [v2] h8) fun v9 h10 =>
 mK (calM call 201 [v0, v2, v5] h10) fun v11 h12 =>
 joinC 5 (fun v13 v14 v15 v16 v17 h18 =>
 bK (nilO v13) fun v20 =>
 bK (fAddr 2 v20) fun v21 =>
 bK (ldO 1 false h18 v21) fun v22 =>
 mK (bslM 1 false [(0, 1)] [(NV.str 0 0)] [v16] h18) fun v23 h24 =>
 mK (appM Tryz.prog 9 v22 v23 h24) fun v25 h26 =>
 bK (nilO v13) fun v27 =>
 bK (fAddr 2 v27) fun v28 =>
 mK (stM 1 v28 v25 h26) fun v29 h30 =>
 mK (calM call 12 [v14, (NV.str 4 1852139636)] h30) fun v31 h32 =>
 bK (extO 0 v31) fun v33 =>
 bK (extO 1 v31) fun v34 =>
 bK (nilO v14) fun v35 =>
 bK (fAddr 0 v35) fun v36 =>
 bK (ldO 1 false h32 v36) fun v37 =>
 mK (calM call 31 [v37, v34] h32) fun v38 h39 =>
 mK (calM call 123 [v13, v33] h39) fun v40 h41 =>
 bK (fAddr 6 v15) fun v42 =>
 mK (stM 1 v42 v40 h41) fun v43 h44 =>
 mK (calM call 12 [v14, (NV.str 4 1702063205)] h44) fun v45 h46 =>
 bK (extO 0 v45) fun v47 =>
 bK (extO 1 v45) fun v48 =>
 joinC 4 (fun v49 v50 v51 v52 h53 =>
 bK (nilO v49) fun v55 =>
 bK (fAddr 2 v55) fun v56 =>
 bK (ldO 1 false h53 (chkV h53 v56)) fun v57 =>
 bK (nilO v49) fun v58 =>
 bK (fAddr 2 v58) fun v59 =>
 bK (ldO 1 false h53 (chkV h53 v59)) fun v60 =>
 bK (lenSl v60) fun v61 =>
 bK (subI v61 (NV.int .i64 (.ofNat 1))) fun v62 =>
 bK (slcO Tryz.prog 46 h53 (chkV h53 v57) none (some (chkV h53 v62)) none) fun v63 =>
 bK (nilO v49) fun v64 =>
 bK (fAddr 2 v64) fun v65 =>
 mK (stM 1 (chkV h53 v65) (chkV h53 v63) h53) fun v66 h67 =>
 nextK h53 h67 (
 mK (calM call 34 [v50] h67) fun v68 h69 =>
 bK (ldO 9 true h69 v51) fun v70 =>
 mK (bslM 1 false [(0, 9)] [(NV.int .i64 (.ofNat 0)), (NV.int .i64 (.ofNat 0)), (NV.int .i64 (.ofNat 0)), (NV.int .u64 (.ofNat 0)), (NV.int .u64 (.ofNat 0)), NV.nslice, NV.nslice, NV.nslice, (NV.bool false)] [v70] h69) fun v71 h72 =>
 mK (appM Tryz.prog 49 v52 v71 h72) fun v73 h74 =>
 retC v73 h74)) fun J54 =>
 condK v48 (
 mK (calM call 123 [v13, v47] h46) fun v75 h76 =>
 bK (fAddr 8 v15) fun v77 =>
 mK (stM 1 v77 (NV.bool true) h76) fun v78 h79 =>
 bK (fAddr 7 v15) fun v80 =>
 mK (stM 1 v80 v75 h79) fun v81 h82 =>
 J54 v13 v14 v15 v17 h82) (
 J54 v13 v14 v15 v17 h46)) fun J19 =>
 loopC N 5 (fun L89 v83 v84 v85 v86 v87 h88 =>
 bK (nilO v84) fun v90 =>
 bK (fAddr 1 v90) fun v91 =>
 bK (ldO 1 false h88 v91) fun v92 =>
 bK (lenSl v92) fun v93 =>
 bK (gtI v93 (NV.int .i64 (.ofNat 0))) fun v94 =>
 jK (fun v95 h96 =>
 jK (fun v98 h99 =>
 jK (fun v101 h102 =>
 bK (pickO v94 v101 (NV.bool false)) fun v104 =>
 jK (fun v105 h106 =>
 jK (fun v108 h109 =>
 jK (fun v111 h112 =>
 jK (fun v114 h115 =>
 jK (fun v117 h118 =>
 jK (fun v120 h121 =>
 jK (fun v123 h124 =>
 jK (fun v126 h127 =>
 bK (pickO v104 v126 (NV.bool false)) fun v129 =>
 condK v129 (
 mK (calM call 186 [v83, v84] h127) fun v130 h131 =>
 mK (appM Tryz.prog 49 v87 v130 h131) fun v132 h133 =>
 L89 v83 v84 v85 v86 v132 h133) (
 J19 v83 v84 v85 v86 v87 h127)) fun J128 => gK v104 true (
 bK (notO v123) fun v134 =>
 J128 v134 h124) (J128 (NV.tuple []) h124)) fun J125 => gK v104 true (
 bK (ldO 1 false h121 v120) fun v135 =>
 J125 v135 h121) (J125 (NV.tuple []) h121)) fun J122 => gK v104 true (
 bK (fAddr 26 v117) fun v136 =>
 J122 v136 h118) (J122 (NV.tuple []) h118)) fun J119 => gK v104 true (
 bK (nilO v114) fun v137 =>
 J119 v137 h115) (J119 (NV.tuple []) h115)) fun J116 => gK v104 true (
 bK (ldO 1 false h112 v111) fun v138 =>
 J116 v138 h112) (J116 (NV.tuple []) h112)) fun J113 => gK v104 true (
 bK (fAddr 0 v108) fun v139 =>
 J113 v139 h109) (J113 (NV.tuple []) h109)) fun J110 => gK v104 true (
 bK (nilO v105) fun v140 =>
 J110 v140 h106) (J110 (NV.tuple []) h106)) fun J107 => gK v104 true (
 J107 v84 h102) (J107 (NV.tuple []) h102)) fun J103 => gK v94 true (
 bK (binO .neq v98 (NV.str 4 1852139636)) fun v141 =>
 J103 v141 h99) (J103 (NV.tuple []) h99)) fun J100 => gK v94 true (
 mK (calM call 29 [v95] h96) fun v142 h143 =>
 J100 v142 h143) (J100 (NV.tuple []) h96)) fun J97 => gK v94 true (
 J97 v84 h88) (J97 (NV.tuple []) h88)) v0 v2 v5 v9 NV.nslice h12)
theorem e203 : ikB Tryz.prog 6 Tryz.f203 = S203 := by kernel_rfl
theorem k203 (w0 : World) : SOK cW w0 203 S203 := okW Tryz.func203 (by kernel_rfl) e203
noncomputable def S188 (call : CallF) (N : Nat) (l : List NV) (h : H) : R :=
 uc l fun v0 l1 => uc l1 fun v2 l3 => un l3 (
 mK (boxM false v0 h) fun v4 h5 =>
 bK (ldO 1 false h5 v2) fun v6 =>
 bK (ldO 9 true h5 v4) fun v7 =>
 mK (calV call v6 [v7] h5) fun v8 h9 =>
 bK (notO v8) fun v10 =>
 retC v10 h9)
theorem e188 : ikB Tryz.prog 6 Tryz.f188 = S188 := by kernel_rfl
theorem k188 (w0 : World) : SOK cW w0 188 S188 := okW Tryz.func188 (by kernel_rfl) e188
noncomputable def S187 (call : CallF) (N : Nat) (l : List NV) (h : H) : R :=
 uc l fun v0 l1 => uc l1 fun v2 l3 => un l3 (
 mK (calM call 204 [v0, v2] h) fun v4 h5 =>
 bK (geI v4 (NV.int .i64 (.ofNat 0))) fun v6 =>
 retC v6 h5)
theorem e187 : ikB Tryz.prog 6 Tryz.f187 = S187 := by kernel_rfl
theorem k187 (w0 : World) : SOK cW w0 187 S187 := okW Tryz.func187 (by kernel_rfl) e187
noncomputable def S189 (call : CallF) (N : Nat) (l : List NV) (h : H) : R :=
 uc l fun v0 l1 => un l1 (
 bK (geI v0 (NV.int .i64 (.ofNat 0))) fun v2 =>
 jK (fun v3 h4 =>
 jK (fun v6 h7 =>
 bK (pickO v2 v6 (NV.bool false)) fun v9 =>
 condK v9 (
 mK (calM call 205 [] h7) fun v10 h11 =>
 bK (ixArr 211 false 1 v10 v0) fun v12 =>
 retC v12 h11) (
 bK (geI v0 (NV.int .i64 (.ofNat 64512))) fun v13 =>
 jK (fun v14 h15 =>
 jK (fun v17 h18 =>
 bK (pickO v13 v17 (NV.bool false)) fun v20 =>
 condK v20 (
 bK (subI v0 (NV.int .i64 (.ofNat 64512))) fun v21 =>
 bK (ixA 18 1 (NV.ptr (.o .h) 0) v21) fun v22 =>
 bK (ldO 1 false h18 v22) fun v23 =>
 retC v23 h18) (
 bK (geI v0 (NV.int .i64 (.ofNat 64768))) fun v24 =>
 jK (fun v25 h26 =>
 jK (fun v28 h29 =>
 bK (pickO v24 v28 (NV.bool false)) fun v31 =>
 condK v31 (
 mK (calM call 206 [] h29) fun v32 h33 =>
 bK (subI v0 (NV.int .i64 (.ofNat 64768))) fun v34 =>
 bK (ixArr 256 false 1 v32 v34) fun v35 =>
 retC v35 h33) (
 retC (NV.str 0 0) h29)) fun J30 => gK v24 true (
 bK (ltI v25 (NV.int .i64 (.ofNat 65024))) fun v36 =>
 J30 v36 h26) (J30 (NV.tuple []) h26)) fun J27 => gK v24 true (
 J27 v0 h18) (J27 (NV.tuple []) h18))) fun J19 => gK v13 true (
 bK (ltI v14 (NV.int .i64 (.ofNat 64530))) fun v37 =>
 J19 v37 h15) (J19 (NV.tuple []) h15)) fun J16 => gK v13 true (
 J16 v0 h7) (J16 (NV.tuple []) h7))) fun J8 => gK v2 true (
 bK (ltI v3 (NV.int .i64 (.ofNat 211))) fun v38 =>
 J8 v38 h4) (J8 (NV.tuple []) h4)) fun J5 => gK v2 true (
 J5 v0 h) (J5 (NV.tuple []) h))
theorem e189 : ikB Tryz.prog 6 Tryz.f189 = S189 := by kernel_rfl
theorem k189 (w0 : World) : SOK cW w0 189 S189 := okW Tryz.func189 (by kernel_rfl) e189
noncomputable def S190 (call : CallF) (N : Nat) (l : List NV) (h : H) : R :=
 uc l fun v0 l1 => un l1 (
 mK (boxM false v0 h) fun v2 h3 =>
 mK (alM (NB.cells [(NV.bool false), (NV.bool false), (NV.bool false), (NV.bool false), (NV.bool false)]) h3) fun v4 h5 =>
 bK (fAddr 1 v2) fun v6 =>
 bK (ldO 1 false h5 v6) fun v7 =>
 bK (neI v7 (NV.int .i64 (.ofNat 0))) fun v8 =>
 bK (fAddr 2 v2) fun v9 =>
 bK (ldO 1 false h5 v9) fun v10 =>
 bK (neI v10 (NV.int .i64 (.ofNat 0))) fun v11 =>
 bK (fAddr 3 v2) fun v12 =>
 bK (ldO 1 false h5 v12) fun v13 =>
 bK (neI v13 (NV.int .u64 (.ofNat 0))) fun v14 =>
 bK (fAddr 4 v2) fun v15 =>
 bK (ldO 1 false h5 v15) fun v16 =>
 bK (neI v16 (NV.int .u64 (.ofNat 0))) fun v17 =>
 bK (fAddr 5 v2) fun v18 =>
 bK (ldO 1 false h5 v18) fun v19 =>
 bK (lenSl v19) fun v20 =>
 bK (gtI v20 (NV.int .i64 (.ofNat 0))) fun v21 =>
 bK (bldO [(0, 1), (1, 1), (2, 1), (3, 1), (4, 1)] [(NV.bool false), (NV.bool false), (NV.bool false), (NV.bool false), (NV.bool false)] [v8, v11, v14, v17, v21]) fun v22 =>
 mK (stM 5 v4 v22 h5) fun v23 h24 =>
 bK (ldO 5 true h24 v4) fun v25 =>
 retC v25 h24)
theorem e190 : ikB Tryz.prog 6 Tryz.f190 = S190 := by kernel_rfl
theorem k190 (w0 : World) : SOK cW w0 190 S190 := okW Tryz.func190 (by kernel_rfl) e190
noncomputable def S191 (call : CallF) (N : Nat) (l : List NV) (h : H) : R :=
 uc l fun v0 l1 => un l1 (
 joinC 3 (fun v2 v3 v4 h5 =>
 bK (geI v4 (NV.int .u8 (.ofNat 128))) fun v7 =>
 condK v7 (
 mK (calM call 207 [v2, (NV.func (.func 208) [] [])] h5) fun v8 h9 =>
 retC v8 h9) (
 mK (mslM 16 false (NV.str 0 0) v3 v3 h5) fun v10 h11 =>
 joinC 4 (fun v12 v13 v14 v15 h16 =>
 joinC 4 (fun v18 v19 v20 v21 h22 =>
 bK (lenStr v18) fun v24 =>
 bK (ltI v21 v24) fun v25 =>
 joinC 1 (fun v26 h27 =>
 retC v26 h27) fun J28 =>
 condK v25 (
 bK (slStr v18 (some v21) none) fun v29 =>
 bK (ixS 1 v19 v20) fun v30 =>
 mK (stM 1 v30 v29 h22) fun v31 h32 =>
 J28 v19 h32) (
 J28 v19 h22)) fun J23 =>
 loopC N 5 (fun L39 v33 v34 v35 v36 v37 h38 =>
 bK (lenStr v33) fun v40 =>
 bK (ltI v37 v40) fun v41 =>
 condK v41 (
 bK (ixStr v33 v37) fun v42 =>
 bK (ixA 256 1 (NV.ptr (.i .h) 0) v42) fun v43 =>
 bK (ldO 1 false h38 v43) fun v44 =>
 bK (eqI v44 (NV.int .u8 (.ofNat 0))) fun v45 =>
 condK v45 (
 bK (addI v37 (NV.int .i64 (.ofNat 1))) fun v46 =>
 L39 v33 v34 v35 v36 v46 h38) (
 bK (slStr v33 (some v36) (some v37)) fun v47 =>
 bK (ixS 1 v34 v35) fun v48 =>
 mK (stM 1 v48 v47 h38) fun v49 h50 =>
 bK (addI v35 (NV.int .i64 (.ofNat 1))) fun v51 =>
 bK (addI v37 (NV.int .i64 (.ofNat 1))) fun v52 =>
 joinC 4 (fun v53 v54 v55 v56 h57 =>
 L39 v53 v54 v55 v56 v56 h57) fun J58 =>
 loopC N 4 (fun L64 v59 v60 v61 v62 h63 =>
 bK (lenStr v59) fun v65 =>
 bK (ltI v62 v65) fun v66 =>
 jK (fun v67 h68 =>
 jK (fun v70 h71 =>
 jK (fun v73 h74 =>
 jK (fun v76 h77 =>
 jK (fun v79 h80 =>
 jK (fun v82 h83 =>
 bK (pickO v66 v82 (NV.bool false)) fun v85 =>
 condK v85 (
 bK (addI v62 (NV.int .i64 (.ofNat 1))) fun v86 =>
 L64 v59 v60 v61 v86 h83) (
 J58 v59 v60 v61 v62 h83)) fun J84 => gK v66 true (
 bK (neI v79 (NV.int .u8 (.ofNat 0))) fun v87 =>
 J84 v87 h80) (J84 (NV.tuple []) h80)) fun J81 => gK v66 true (
 bK (ldO 1 false h77 v76) fun v88 =>
 J81 v88 h77) (J81 (NV.tuple []) h77)) fun J78 => gK v66 true (
 bK (ixA 256 1 (NV.ptr (.i .h) 0) v73) fun v89 =>
 J78 v89 h74) (J78 (NV.tuple []) h74)) fun J75 => gK v66 true (
 bK (ixStr v67 v70) fun v90 =>
 J75 v90 h71) (J75 (NV.tuple []) h71)) fun J72 => gK v66 true (
 J72 v62 h68) (J72 (NV.tuple []) h68)) fun J69 => gK v66 true (
 J69 v59 h63) (J69 (NV.tuple []) h63)) v33 v34 v51 v52 h50)) (
 J23 v33 v34 v35 v36 h38)) v12 v13 v14 v15 v15 h16) fun J17 =>
 loopC N 4 (fun L96 v91 v92 v93 v94 h95 =>
 bK (lenStr v91) fun v97 =>
 bK (ltI v94 v97) fun v98 =>
 jK (fun v99 h100 =>
 jK (fun v102 h103 =>
 jK (fun v105 h106 =>
 jK (fun v108 h109 =>
 jK (fun v111 h112 =>
 jK (fun v114 h115 =>
 bK (pickO v98 v114 (NV.bool false)) fun v117 =>
 condK v117 (
 bK (addI v94 (NV.int .i64 (.ofNat 1))) fun v118 =>
 L96 v91 v92 v93 v118 h115) (
 J17 v91 v92 v93 v94 h115)) fun J116 => gK v98 true (
 bK (neI v111 (NV.int .u8 (.ofNat 0))) fun v119 =>
 J116 v119 h112) (J116 (NV.tuple []) h112)) fun J113 => gK v98 true (
 bK (ldO 1 false h109 v108) fun v120 =>
 J113 v120 h109) (J113 (NV.tuple []) h109)) fun J110 => gK v98 true (
 bK (ixA 256 1 (NV.ptr (.i .h) 0) v105) fun v121 =>
 J110 v121 h106) (J110 (NV.tuple []) h106)) fun J107 => gK v98 true (
 bK (ixStr v99 v102) fun v122 =>
 J107 v122 h103) (J107 (NV.tuple []) h103)) fun J104 => gK v98 true (
 J104 v94 h100) (J104 (NV.tuple []) h100)) fun J101 => gK v98 true (
 J101 v91 h95) (J101 (NV.tuple []) h95)) v2 v10 (NV.int .i64 (.ofNat 0)) (NV.int .i64 (.ofNat 0)) h11)) fun J6 =>
 loopC N 5 (fun L129 v123 v124 v125 v126 v127 h128 =>
 bK (lenStr v123) fun v130 =>
 bK (ltI v127 v130) fun v131 =>
 condK v131 (
 bK (ixStr v123 v127) fun v132 =>
 bK (binO .or v126 v132) fun v133 =>
 bK (ixA 256 1 (NV.ptr (.i .h) 0) v132) fun v134 =>
 bK (ldO 1 false h128 v134) fun v135 =>
 bK (cvI .i64 v135) fun v136 =>
 bK (unO .xor v136) fun v137 =>
 bK (binO .and v125 v137) fun v138 =>
 bK (addI v124 v138) fun v139 =>
 bK (addI v127 (NV.int .i64 (.ofNat 1))) fun v140 =>
 L129 v123 v139 v136 v133 v140 h128) (
 J6 v123 v124 v126 h128)) v0 (NV.int .i64 (.ofNat 0)) (NV.int .i64 (.ofNat 1)) (NV.int .u8 (.ofNat 0)) (NV.int .i64 (.ofNat 0)) h)
theorem e191 : ikB Tryz.prog 6 Tryz.f191 = S191 := by kernel_rfl
theorem k191 (w0 : World) : SOK cW w0 191 S191 := okW Tryz.func191 (by kernel_rfl) e191
noncomputable def S209 (call : CallF) (N : Nat) (l : List NV) (h : H) : R :=
 uc l fun v0 l1 => uc l1 fun v2 l3 => un l3 (
 bK (lenStr v2) fun v4 =>
 bK (eqI v4 (NV.int .i64 (.ofNat 0))) fun v5 =>
 jK (fun v6 h7 =>
 jK (fun v9 h10 =>
 jK (fun v12 h13 =>
 bK (pickO v5 (NV.bool true) v12) fun v15 =>
 condK v15 (
 retC (NV.int .i64 (.ofNat 0)) h13) (
 bK (eqI v4 (NV.int .i64 (.ofNat 1))) fun v16 =>
 condK v16 (
 bK (ixStr v2 (NV.int .i64 (.ofNat 0))) fun v17 =>
 mK (calM call 152 [v0, v17] h13) fun v18 h19 =>
 retC v18 h19) (
 bK (lenStr v0) fun v20 =>
 bK (geI v4 v20) fun v21 =>
 condK v21 (
 retC (NV.int .i64 (.negSucc 0)) h13) (
 bK (ldO 1 false h13 (NV.ptr .h 0)) fun v22 =>
 bK (leI v4 v22) fun v23 =>
 jK (fun v24 h25 =>
 jK (fun v27 h28 =>
 jK (fun v30 h31 =>
 bK (pickO v23 v30 (NV.bool false)) fun v33 =>
 condK v33 (
 mK (calM call 222 [v0, v2] h31) fun v34 h35 =>
 retC v34 h35) (
 bK (ixStr v2 (NV.int .i64 (.ofNat 0))) fun v36 =>
 bK (ixStr v2 (NV.int .i64 (.ofNat 1))) fun v37 =>
 bK (lenStr v0) fun v38 =>
 bK (subI v38 v4) fun v39 =>
 bK (addI v39 (NV.int .i64 (.ofNat 1))) fun v40 =>
 joinC 0 (fun h41 =>
 retC (NV.int .i64 (.negSucc 0)) h41) fun J42 =>
 loopC N 8 (fun L52 v43 v44 v45 v46 v47 v48 v49 v50 h51 =>
 bK (ltI v48 v49) fun v53 =>
 condK v53 (
 bK (ixStr v43 v48) fun v54 =>
 bK (neI v54 v46) fun v55 =>
 joinC 8 (fun v56 v57 v58 v59 v60 v61 v62 v63 h64 =>
 bK (addI v61 (NV.int .i64 (.ofNat 1))) fun v66 =>
 bK (ixStr v56 v66) fun v67 =>
 bK (eqI v67 v60) fun v68 =>
 jK (fun v69 h70 =>
 jK (fun v72 h73 =>
 jK (fun v75 h76 =>
 jK (fun v78 h79 =>
 jK (fun v81 h82 =>
 jK (fun v84 h85 =>
 jK (fun v87 h88 =>
 jK (fun v90 h91 =>
 bK (pickO v68 v90 (NV.bool false)) fun v93 =>
 condK v93 (
 retC v61 h91) (
 bK (addI v61 (NV.int .i64 (.ofNat 1))) fun v94 =>
 bK (addI v63 (NV.int .i64 (.ofNat 1))) fun v95 =>
 bK (ldO 1 false h91 (NV.ptr .h 0)) fun v96 =>
 bK (leI v58 v96) fun v97 =>
 jK (fun v98 h99 =>
 jK (fun v101 h102 =>
 jK (fun v104 h105 =>
 jK (fun v107 h108 =>
 bK (pickO v97 v107 (NV.bool false)) fun v110 =>
 condK v110 (
 bK (slStr v56 (some v94) none) fun v111 =>
 mK (calM call 222 [v111, v57] h108) fun v112 h113 =>
 bK (geI v112 (NV.int .i64 (.ofNat 0))) fun v114 =>
 condK v114 (
 bK (addI v112 v94) fun v115 =>
 retC v115 h113) (
 retC (NV.int .i64 (.negSucc 0)) h113)) (
 bK (ldO 1 false h108 (NV.ptr .h 0)) fun v116 =>
 bK (gtI v58 v116) fun v117 =>
 jK (fun v118 h119 =>
 jK (fun v121 h122 =>
 jK (fun v124 h125 =>
 jK (fun v127 h128 =>
 jK (fun v130 h131 =>
 bK (pickO v117 v130 (NV.bool false)) fun v133 =>
 jK (fun v134 h135 =>
 jK (fun v137 h138 =>
 jK (fun v140 h141 =>
 bK (pickO v133 v140 (NV.bool false)) fun v143 =>
 condK v143 (
 bK (slStr v56 (some v94) none) fun v144 =>
 mK (calM call 224 [v144, v57] h141) fun v145 h146 =>
 bK (ltI v145 (NV.int .i64 (.ofNat 0))) fun v147 =>
 condK v147 (
 retC (NV.int .i64 (.negSucc 0)) h146) (
 bK (addI v94 v145) fun v148 =>
 retC v148 h146)) (
 L52 v56 v57 v58 v59 v60 v94 v62 v95 h141)) fun J142 => gK v133 true (
 bK (ltI v134 v137) fun v149 =>
 J142 v149 h138) (J142 (NV.tuple []) h138)) fun J139 => gK v133 true (
 J139 v62 h135) (J139 (NV.tuple []) h135)) fun J136 => gK v133 true (
 J136 v94 h131) (J136 (NV.tuple []) h131)) fun J132 => gK v117 true (
 bK (geI v118 v127) fun v150 =>
 J132 v150 h128) (J132 (NV.tuple []) h128)) fun J129 => gK v117 true (
 bK (addI (NV.int .i64 (.ofNat 4)) v124) fun v151 =>
 J129 v151 h125) (J129 (NV.tuple []) h125)) fun J126 => gK v117 true (
 bK (binO .shr v121 (NV.int .u64 (.ofNat 4))) fun v152 =>
 J126 v152 h122) (J126 (NV.tuple []) h122)) fun J123 => gK v117 true (
 J123 v94 h119) (J123 (NV.tuple []) h119)) fun J120 => gK v117 true (
 J120 v95 h108) (J120 (NV.tuple []) h108))) fun J109 => gK v97 true (
 bK (gtI v98 v104) fun v153 =>
 J109 v153 h105) (J109 (NV.tuple []) h105)) fun J106 => gK v97 true (
 mK (calM call 223 [v101] h102) fun v154 h155 =>
 J106 v154 h155) (J106 (NV.tuple []) h102)) fun J103 => gK v97 true (
 J103 v94 h99) (J103 (NV.tuple []) h99)) fun J100 => gK v97 true (
 J100 v95 h91) (J100 (NV.tuple []) h91))) fun J92 => gK v68 true (
 bK (binO .eql v84 v87) fun v156 =>
 J92 v156 h88) (J92 (NV.tuple []) h88)) fun J89 => gK v68 true (
 J89 v57 h85) (J89 (NV.tuple []) h85)) fun J86 => gK v68 true (
 bK (slStr v69 (some v72) (some v81)) fun v157 =>
 J86 v157 h82) (J86 (NV.tuple []) h82)) fun J83 => gK v68 true (
 bK (addI v75 v78) fun v158 =>
 J83 v158 h79) (J83 (NV.tuple []) h79)) fun J80 => gK v68 true (
 J80 v58 h76) (J80 (NV.tuple []) h76)) fun J77 => gK v68 true (
 J77 v61 h73) (J77 (NV.tuple []) h73)) fun J74 => gK v68 true (
 J74 v61 h70) (J74 (NV.tuple []) h70)) fun J71 => gK v68 true (
 J71 v56 h64) (J71 (NV.tuple []) h64)) fun J65 =>
 condK v55 (
 bK (addI v48 (NV.int .i64 (.ofNat 1))) fun v159 =>
 bK (slStr v43 (some v159) (some v49)) fun v160 =>
 mK (calM call 152 [v160, v46] h51) fun v161 h162 =>
 bK (ltI v161 (NV.int .i64 (.ofNat 0))) fun v163 =>
 condK v163 (
 retC (NV.int .i64 (.negSucc 0)) h162) (
 bK (addI v161 (NV.int .i64 (.ofNat 1))) fun v164 =>
 bK (addI v48 v164) fun v165 =>
 J65 v43 v44 v45 v46 v47 v165 v49 v50 h162)) (
 J65 v43 v44 v45 v46 v47 v48 v49 v50 h51)) (
 J42 h51)) v0 v2 v4 v36 v37 (NV.int .i64 (.ofNat 0)) v40 (NV.int .i64 (.ofNat 0)) h31)) fun J32 => gK v23 true (
 bK (leI v27 (NV.int .i64 (.ofNat 64))) fun v166 =>
 J32 v166 h28) (J32 (NV.tuple []) h28)) fun J29 => gK v23 true (
 bK (lenStr v24) fun v167 =>
 J29 v167 h25) (J29 (NV.tuple []) h25)) fun J26 => gK v23 true (
 J26 v0 h13) (J26 (NV.tuple []) h13))))) fun J14 => gK v5 false (
 bK (binO .eql v6 v9) fun v168 =>
 J14 v168 h10) (J14 (NV.tuple []) h10)) fun J11 => gK v5 false (
 J11 v0 h7) (J11 (NV.tuple []) h7)) fun J8 => gK v5 false (
 J8 v2 h) (J8 (NV.tuple []) h))
theorem e209 : ikB Tryz.prog 6 Tryz.f209 = S209 := by kernel_rfl
theorem k209 (w0 : World) : SOK cW w0 209 S209 := okW Tryz.func209 (by kernel_rfl) e209
noncomputable def S210 (call : CallF) (N : Nat) (l : List NV) (h : H) : R :=
 uc l fun v0 l1 => uc l1 fun v2 l3 => un l3 (
 mK (calM call 160 [v0, v2] h) fun v4 h5 =>
 condK v4 (
 bK (lenStr v2) fun v6 =>
 bK (slStr v0 (some v6) none) fun v7 =>
 retC v7 h5) (
 retC v0 h5))
theorem e210 : ikB Tryz.prog 6 Tryz.f210 = S210 := by kernel_rfl
theorem k210 (w0 : World) : SOK cW w0 210 S210 := okW Tryz.func210 (by kernel_rfl) e210
noncomputable def S211 (call : CallF) (N : Nat) (l : List NV) (h : H) : R :=
 uc l fun v0 l1 => uc l1 fun v2 l3 => uc l3 fun v4 l5 => uc l5 fun v6 l7 => un l7 (
 bK (binO .eql v2 v4) fun v8 =>
 jK (fun v9 h10 =>
 jK (fun v12 h13 =>
 bK (pickO v8 (NV.bool true) v12) fun v15 =>
 condK v15 (
 retC v0 h13) (
 mK (calM call 225 [v0, v2] h13) fun v16 h17 =>
 bK (eqI v16 (NV.int .i64 (.ofNat 0))) fun v18 =>
 condK v18 (
 retC v0 h17) (
 bK (ltI v6 (NV.int .i64 (.ofNat 0))) fun v19 =>
 jK (fun v20 h21 =>
 jK (fun v23 h24 =>
 jK (fun v26 h27 =>
 bK (pickO v19 (NV.bool true) v26) fun v29 =>
 joinC 4 (fun v30 v31 v32 v33 h34 =>
 mK (alM (NB.cells [NV.nilptr, NV.nslice]) h34) fun v36 h37 =>
 bK (lenStr v30) fun v38 =>
 bK (lenStr v32) fun v39 =>
 bK (lenStr v31) fun v40 =>
 bK (subI v39 v40) fun v41 =>
 bK (binO .mul v33 v41) fun v42 =>
 bK (addI v38 v42) fun v43 =>
 mK (calM call 226 [v36, v43] h37) fun v44 h45 =>
 bK (lenStr v31) fun v46 =>
 bK (gtI v46 (NV.int .i64 (.ofNat 0))) fun v47 =>
 joinC 3 (fun v48 v49 v50 h51 =>
 bK (slStr v48 (some v50) none) fun v53 =>
 mK (calM call 227 [v49, v53] h51) fun v54 h55 =>
 mK (calM call 229 [v49] h55) fun v56 h57 =>
 retC v56 h57) fun J52 =>
 condK v47 (
 loopC N 7 (fun L66 v58 v59 v60 v61 v62 v63 v64 h65 =>
 bK (ltI v64 v63) fun v67 =>
 condK v67 (
 bK (slStr v58 (some v62) none) fun v68 =>
 mK (calM call 213 [v68, v59] h65) fun v69 h70 =>
 bK (addI v62 v69) fun v71 =>
 bK (slStr v58 (some v62) (some v71)) fun v72 =>
 mK (calM call 227 [v61, v72] h70) fun v73 h74 =>
 mK (calM call 227 [v61, v60] h74) fun v75 h76 =>
 bK (lenStr v59) fun v77 =>
 bK (addI v71 v77) fun v78 =>
 bK (addI v64 (NV.int .i64 (.ofNat 1))) fun v79 =>
 L66 v58 v59 v60 v61 v78 v63 v79 h76) (
 J52 v58 v61 v62 h65)) v30 v31 v32 v36 (NV.int .i64 (.ofNat 0)) v33 (NV.int .i64 (.ofNat 0)) h45) (
 mK (calM call 227 [v36, v32] h45) fun v80 h81 =>
 bK (subI v33 (NV.int .i64 (.ofNat 1))) fun v82 =>
 loopC N 6 (fun L90 v83 v84 v85 v86 v87 v88 h89 =>
 bK (ltI v88 v87) fun v91 =>
 condK v91 (
 bK (slStr v83 (some v86) none) fun v92 =>
 mK (calM call 228 [v92] h89) fun v93 h94 =>
 bK (extO 0 v93) fun v95 =>
 bK (extO 1 v93) fun v96 =>
 bK (addI v86 v96) fun v97 =>
 bK (slStr v83 (some v86) (some v97)) fun v98 =>
 mK (calM call 227 [v85, v98] h94) fun v99 h100 =>
 mK (calM call 227 [v85, v84] h100) fun v101 h102 =>
 bK (addI v88 (NV.int .i64 (.ofNat 1))) fun v103 =>
 L90 v83 v84 v85 v97 v87 v103 h102) (
 J52 v83 v85 v86 h89)) v30 v32 v36 (NV.int .i64 (.ofNat 0)) v82 (NV.int .i64 (.ofNat 0)) h81)) fun J35 =>
 condK v29 (
 J35 v0 v2 v4 v16 h27) (
 J35 v0 v2 v4 v6 h27)) fun J28 => gK v19 false (
 bK (ltI v20 v23) fun v104 =>
 J28 v104 h24) (J28 (NV.tuple []) h24)) fun J25 => gK v19 false (
 J25 v6 h21) (J25 (NV.tuple []) h21)) fun J22 => gK v19 false (
 J22 v16 h17) (J22 (NV.tuple []) h17)))) fun J14 => gK v8 false (
 bK (eqI v9 (NV.int .i64 (.ofNat 0))) fun v105 =>
 J14 v105 h10) (J14 (NV.tuple []) h10)) fun J11 => gK v8 false (
 J11 v6 h) (J11 (NV.tuple []) h))
theorem e211 : ikB Tryz.prog 6 Tryz.f211 = S211 := by kernel_rfl
theorem k211 (w0 : World) : SOK cW w0 211 S211 := okW Tryz.func211 (by kernel_rfl) e211
noncomputable def S212 (call : CallF) (N : Nat) (l : List NV) (h : H) : R :=
 uc l fun v0 l1 => uc l1 fun v2 l3 => un l3 (
 bK (lenStr v0) fun v4 =>
 bK (lenStr v2) fun v5 =>
 bK (geI v4 v5) fun v6 =>
 jK (fun v7 h8 =>
 jK (fun v10 h11 =>
 jK (fun v13 h14 =>
 jK (fun v16 h17 =>
 jK (fun v19 h20 =>
 jK (fun v22 h23 =>
 jK (fun v25 h26 =>
 jK (fun v28 h29 =>
 jK (fun v31 h32 =>
 bK (pickO v6 v31 (NV.bool false)) fun v34 =>
 retC v34 h32) fun J33 => gK v6 true (
 bK (binO .eql v25 v28) fun v35 =>
 J33 v35 h29) (J33 (NV.tuple []) h29)) fun J30 => gK v6 true (
 J30 v2 h26) (J30 (NV.tuple []) h26)) fun J27 => gK v6 true (
 bK (slStr v7 (some v22) none) fun v36 =>
 J27 v36 h23) (J27 (NV.tuple []) h23)) fun J24 => gK v6 true (
 bK (subI v13 v19) fun v37 =>
 J24 v37 h20) (J24 (NV.tuple []) h20)) fun J21 => gK v6 true (
 bK (lenStr v16) fun v38 =>
 J21 v38 h17) (J21 (NV.tuple []) h17)) fun J18 => gK v6 true (
 J18 v2 h14) (J18 (NV.tuple []) h14)) fun J15 => gK v6 true (
 bK (lenStr v10) fun v39 =>
 J15 v39 h11) (J15 (NV.tuple []) h11)) fun J12 => gK v6 true (
 J12 v0 h8) (J12 (NV.tuple []) h8)) fun J9 => gK v6 true (
 J9 v0 h) (J9 (NV.tuple []) h))
theorem e212 : ikB Tryz.prog 6 Tryz.f212 = S212 := by kernel_rfl
theorem k212 (w0 : World) : SOK cW w0 212 S212 := okW Tryz.func212 (by kernel_rfl) e212
noncomputable def S213 (call : CallF) (N : Nat) (l : List NV) (h : H) : R :=
 uc l fun v0 l1 => uc l1 fun v2 l3 => un l3 (
 mK (calM call 209 [v0, v2] h) fun v4 h5 =>
 retC v4 h5)
theorem e213 : ikB Tryz.prog 6 Tryz.f213 = S213 := by kernel_rfl
theorem k213 (w0 : World) : SOK cW w0 213 S213 := okW Tryz.func213 (by kernel_rfl) e213
noncomputable def S214 (call : CallF) (N : Nat) (l : List NV) (h : H) : R :=
 un l (
 joinC 1 (fun v0 h1 =>
 retC v0 h1) fun J2 =>
 loopC N 2 (fun L6 v3 v4 h5 =>
 bK (ltI v4 (NV.int .i64 (.ofNat 65024))) fun v7 =>
 condK v7 (
 mK (calM call 168 [v4] h5) fun v8 h9 =>
 joinC 2 (fun v10 v11 h12 =>
 bK (addI v11 (NV.int .i64 (.ofNat 1))) fun v14 =>
 L6 v10 v14 h12) fun J13 =>
 condK v8 (
 mK (bslM 1 false [(0, 1)] [(NV.int .i64 (.ofNat 0))] [v4] h9) fun v15 h16 =>
 mK (appM Tryz.prog 3 v3 v15 h16) fun v17 h18 =>
 J13 v17 v4 h18) (
 J13 v3 v4 h9)) (
 J2 v3 h5)) NV.nslice (NV.int .i64 (.ofNat 0)) h)
theorem e214 : ikB Tryz.prog 6 Tryz.f214 = S214 := by kernel_rfl
theorem k214 (w0 : World) : SOK cW w0 214 S214 := okW Tryz.func214 (by kernel_rfl) e214
noncomputable def S215 (call : CallF) (N : Nat) (l : List NV) (h : H) : R :=
 uc l fun v0 l1 => un l1 (
 mK (calM call 176 [v0, (NV.int .i64 (.ofNat 0))] h) fun v2 h3 =>
 retC v2 h3)
theorem e215 : ikB Tryz.prog 6 Tryz.f215 = S215 := by kernel_rfl
theorem k215 (w0 : World) : SOK cW w0 215 S215 := okW Tryz.func215 (by kernel_rfl) e215
noncomputable def S216 (call : CallF) (N : Nat) (l : List NV) (h : H) : R :=
 uc l fun v0 l1 => uc l1 fun v2 l3 => uc l3 fun v4 l5 => un l5 (
 bK (nilO v4) fun v6 =>
 bK (fAddr 0 v6) fun v7 =>
 bK (ldO 1 false h v7) fun v8 =>
 bK (neI v8 (NV.int .i64 (.ofNat 27))) fun v9 =>
 condK v9 (
 retC (NV.tuple []) h) (
 mK (calM call 12 [v2, (NV.str 6 128009175786866)] h) fun v10 h11 =>
 bK (extO 0 v10) fun v12 =>
 bK (extO 1 v10) fun v13 =>
 loopC N 4 (fun L19 v14 v15 v16 v17 h18 =>
 condK v17 (
 mK (calM call 104 [v16, (NV.bool false)] h18) fun v20 h21 =>
 bK (extO 0 v20) fun v22 =>
 bK (extO 1 v20) fun v23 =>
 bK (nilO v15) fun v24 =>
 bK (fAddr 5 v24) fun v25 =>
 bK (ldO 1 false h21 v25) fun v26 =>
 mK (appM Tryz.prog 3 v26 v22 h21) fun v27 h28 =>
 bK (nilO v15) fun v29 =>
 bK (fAddr 0 v29) fun v30 =>
 mK (stM 1 v30 (NV.int .i64 (.ofNat 28)) h28) fun v31 h32 =>
 bK (nilO v15) fun v33 =>
 bK (fAddr 5 v33) fun v34 =>
 mK (stM 1 v34 v27 h32) fun v35 h36 =>
 mK (calM call 12 [v14, (NV.str 6 128009175786866)] h36) fun v37 h38 =>
 bK (extO 0 v37) fun v39 =>
 bK (extO 1 v37) fun v40 =>
 L19 v14 v15 v39 v40 h38) (
 retC (NV.tuple []) h18)) v2 v4 v12 v13 h11))
theorem e216 : ikB Tryz.prog 6 Tryz.f216 = S216 := by kernel_rfl
theorem k216 (w0 : World) : SOK cW w0 216 S216 := okW Tryz.func216 (by kernel_rfl) e216
noncomputable def S217 (call : CallF) (N : Nat) (l : List NV) (h : H) : R :=
 uc l fun v0 l1 => uc l1 fun v2 l3 => un l3 (
 mK (calM call 112 [v2] h) fun v4 h5 =>
 mK (calM call 113 [v4, (NV.str 1 36)] h5) fun v6 h7 =>
 bK (notO v6) fun v8 =>
 condK v8 (
 bK (nilO v2) fun v9 =>
 bK (fAddr 0 v9) fun v10 =>
 bK (ldO 1 false h7 v10) fun v11 =>
 mK (calM call 114 [v11, v4, (NV.int .i64 (.ofNat 32))] h7) fun v12 h13 =>
 retC v12 h13) (
 bK (nilO v0) fun v14 =>
 bK (fAddr 2 v14) fun v15 =>
 bK (ldO 1 false h7 v15) fun v16 =>
 bK (lenSl v16) fun v17 =>
 bK (subI v17 (NV.int .i64 (.ofNat 1))) fun v18 =>
 joinC 1 (fun v19 h20 =>
 bK (nilO v19) fun v22 =>
 bK (fAddr 0 v22) fun v23 =>
 bK (ldO 1 false h20 v23) fun v24 =>
 mK (calM call 31 [v24, (NV.bool false)] h20) fun v25 h26 =>
 retC (NV.int .i64 (.ofNat 0)) h26) fun J21 =>
 loopC N 4 (fun L32 v27 v28 v29 v30 h31 =>
 bK (geI v30 (NV.int .i64 (.ofNat 0))) fun v33 =>
 condK v33 (
 bK (nilO v27) fun v34 =>
 bK (fAddr 2 v34) fun v35 =>
 bK (ldO 1 false h31 v35) fun v36 =>
 bK (ixS 1 v36 v30) fun v37 =>
 bK (ldO 1 false h31 v37) fun v38 =>
 bK (binO .eql v38 v29) fun v39 =>
 condK v39 (
 bK (nilO v27) fun v40 =>
 bK (fAddr 2 v40) fun v41 =>
 bK (ldO 1 false h31 v41) fun v42 =>
 bK (lenSl v42) fun v43 =>
 bK (subI v43 (NV.int .i64 (.ofNat 1))) fun v44 =>
 bK (subI v44 v30) fun v45 =>
 retC v45 h31) (
 bK (subI v30 (NV.int .i64 (.ofNat 1))) fun v46 =>
 L32 v27 v28 v29 v46 h31)) (
 J21 v28 h31)) v0 v2 v4 v18 h7))
theorem e217 : ikB Tryz.prog 6 Tryz.f217 = S217 := by kernel_rfl
theorem k217 (w0 : World) : SOK cW w0 217 S217 := okW Tryz.func217 (by kernel_rfl) e217
noncomputable def S218 (call : CallF) (N : Nat) (l : List NV) (h : H) : R :=
 uc l fun v0 l1 => uc l1 fun v2 l3 => un l3 (
 bK (nilO v2) fun v4 =>
 bK (fAddr 0 v4) fun v5 =>
 bK (ldO 1 false h v5) fun v6 =>
 mK (calM call 230 [v6] h) fun v7 h8 =>
 bK (nilO v2) fun v9 =>
 bK (fAddr 1 v9) fun v10 =>
 mK (stM 1 v10 v7 h8) fun v11 h12 =>
 mK (calM call 30 [v0] h12) fun v13 h14 =>
 mK (calM call 178 [v13, (NV.str 7 17297952655959663)] h14) fun v15 h16 =>
 bK (extO 0 v15) fun v17 =>
 bK (extO 1 v15) fun v18 =>
 joinC 2 (fun v19 v20 h21 =>
 mK (calM call 30 [v19] h21) fun v23 h24 =>
 mK (calM call 178 [v23, (NV.str 6 67544390659169)] h24) fun v25 h26 =>
 bK (extO 0 v25) fun v27 =>
 bK (extO 1 v25) fun v28 =>
 condK v28 (
 mK (calM call 112 [v19] h26) fun v29 h30 =>
 bK (nilO v19) fun v31 =>
 bK (fAddr 0 v31) fun v32 =>
 bK (ldO 1 false h30 v32) fun v33 =>
 mK (calM call 114 [v33, v27, (NV.int .i64 (.ofNat 32))] h30) fun v34 h35 =>
 mK (calM call 231 [v34] h35) fun v36 h37 =>
 bK (nilO v20) fun v38 =>
 bK (fAddr 1 v38) fun v39 =>
 mK (stM 1 v39 v36 h37) fun v40 h41 =>
 bK (nilO v19) fun v42 =>
 bK (fAddr 0 v42) fun v43 =>
 bK (ldO 1 false h41 (chkV h41 v43)) fun v44 =>
 bK (nilO v20) fun v45 =>
 bK (fAddr 1 v45) fun v46 =>
 bK (ldO 1 false h41 (chkV h41 v46)) fun v47 =>
 bK (geI v47 (NV.int .i64 (.ofNat 0))) fun v48 =>
 mK (calM call 31 [(chkV h41 v44), (chkV h41 v48)] h41) fun v49 h50 =>
 nextK h41 h50 (
 retC (NV.tuple []) h50)) (
 retC (NV.tuple []) h26)) fun J22 =>
 condK v18 (
 mK (calM call 112 [v0] h16) fun v51 h52 =>
 bK (nilO v0) fun v53 =>
 bK (fAddr 0 v53) fun v54 =>
 bK (ldO 1 false h52 v54) fun v55 =>
 mK (calM call 114 [v55, v17, (NV.int .i64 (.ofNat 32))] h52) fun v56 h57 =>
 bK (nilO v2) fun v58 =>
 bK (fAddr 2 v58) fun v59 =>
 mK (stM 1 v59 v56 h57) fun v60 h61 =>
 J22 v0 v2 h61) (
 J22 v0 v2 h16))
theorem e218 : ikB Tryz.prog 6 Tryz.f218 = S218 := by kernel_rfl
theorem k218 (w0 : World) : SOK cW w0 218 S218 := okW Tryz.func218 (by kernel_rfl) e218
noncomputable def S219 (call : CallF) (N : Nat) (l : List NV) (h : H) : R :=
 uc l fun v0 l1 => uc l1 fun v2 l3 => uc l3 fun v4 l5 => uc l5 fun v6 l7 => un l7 (
 bK (eqI v6 (NV.int .i64 (.ofNat 12))) fun v8 =>
 condK v8 (
 mK (calM call 232 [v2, (NV.int .i64 (.ofNat 32)), (NV.bool false)] h) fun v9 h10 =>
 bK (nilO v4) fun v11 =>
 bK (fAddr 3 v11) fun v12 =>
 mK (stM 1 v12 v9 h10) fun v13 h14 =>
 retC (NV.tuple []) h14) (
 bK (eqI v6 (NV.int .i64 (.ofNat 13))) fun v15 =>
 condK v15 (
 mK (calM call 232 [v2, (NV.int .i64 (.ofNat 64)), (NV.bool false)] h) fun v16 h17 =>
 bK (nilO v4) fun v18 =>
 bK (fAddr 3 v18) fun v19 =>
 mK (stM 1 v19 v16 h17) fun v20 h21 =>
 retC (NV.tuple []) h21) (
 bK (eqI v6 (NV.int .i64 (.ofNat 14))) fun v22 =>
 condK v22 (
 mK (calM call 232 [v2, (NV.int .i64 (.ofNat 32)), (NV.bool true)] h) fun v23 h24 =>
 bK (nilO v4) fun v25 =>
 bK (fAddr 3 v25) fun v26 =>
 mK (stM 1 v26 v23 h24) fun v27 h28 =>
 retC (NV.tuple []) h28) (
 bK (eqI v6 (NV.int .i64 (.ofNat 15))) fun v29 =>
 condK v29 (
 mK (calM call 232 [v2, (NV.int .i64 (.ofNat 64)), (NV.bool true)] h) fun v30 h31 =>
 bK (nilO v4) fun v32 =>
 bK (fAddr 3 v32) fun v33 =>
 mK (stM 1 v33 v30 h31) fun v34 h35 =>
 retC (NV.tuple []) h35) (
 mK (bslM 6 false [(0, 1), (1, 1), (2, 1), (3, 1), (4, 1), (5, 1)] [(NV.str 0 0), (NV.str 0 0), (NV.str 0 0), (NV.str 0 0), (NV.str 0 0), (NV.str 0 0)] [(NV.str 5 232758196329), (NV.str 5 242534986089), (NV.str 5 225354855273), (NV.str 5 216765052521), (NV.str 5 225354855270), (NV.str 5 216765052518)] h) fun v36 h37 =>
 mK (calM call 112 [v2] h37) fun v38 h39 =>
 mK (calM call 106 [v36, v38] h39) fun v40 h41 =>
 bK (nilO v2) fun v42 =>
 bK (fAddr 0 v42) fun v43 =>
 bK (ldO 1 false h41 v43) fun v44 =>
 bK (geI v40 (NV.int .i64 (.ofNat 0))) fun v45 =>
 mK (calM call 31 [v44, v45] h41) fun v46 h47 =>
 bK (bldO [(0, 1), (1, 1), (2, 1), (3, 1), (4, 1), (5, 1)] [(NV.int .i64 (.ofNat 0)), (NV.int .i64 (.ofNat 0)), (NV.int .i64 (.ofNat 0)), (NV.int .i64 (.ofNat 0)), (NV.int .i64 (.ofNat 0)), (NV.int .i64 (.ofNat 0))] [(NV.int .i64 (.ofNat 8)), (NV.int .i64 (.ofNat 16)), (NV.int .i64 (.ofNat 32)), (NV.int .i64 (.ofNat 64)), (NV.int .i64 (.ofNat 32)), (NV.int .i64 (.ofNat 64))]) fun v48 =>
 bK (foldMM true v40 [(NV.int .i64 (.ofNat 0))]) fun v49 =>
 bK (ixArr 6 false 1 v48 v49) fun v50 =>
 bK (binO .quo (NV.int .i64 (.ofNat 128)) v50) fun v51 =>
 joinC 3 (fun v52 v53 v54 h55 =>
 mK (calM call 233 [v53, v54] h55) fun v57 h58 =>
 bK (extO 0 v57) fun v59 =>
 bK (extO 1 v57) fun v60 =>
 mK (alM (NB.cells [(NV.int .i64 (.ofNat 0)), (NV.int .u64 (.ofNat 0)), (NV.int .u64 (.ofNat 0)), (NV.bool false)]) h58) fun v61 h62 =>
 mK (stM 4 v61 v59 h62) fun v63 h64 =>
 bK (fAddr 1 v61) fun v65 =>
 bK (ldO 1 false h64 (chkV h64 v65)) fun v66 =>
 bK (fAddr 2 v61) fun v67 =>
 bK (ldO 1 false h64 (chkV h64 v67)) fun v68 =>
 bK (nilO v52) fun v69 =>
 bK (fAddr 3 v69) fun v70 =>
 mK (stM 1 (chkV h64 v70) (chkV h64 v66) h64) fun v71 h72 =>
 nextK h64 h72 (
 bK (nilO v52) fun v73 =>
 bK (fAddr 4 v73) fun v74 =>
 bK (ldO 1 false h72 (chkV h72 v67)) fun v75 =>
 sameK v75 v68 (
 mK (stM 1 (chkV h72 v74) (chkV h72 v68) h72) fun v76 h77 =>
 nextK h72 h77 (
 retC (NV.tuple []) h77)))) fun J56 =>
 loopC N 7 (fun L86 v78 v79 v80 v81 v82 v83 v84 h85 =>
 bK (ltI v84 v83) fun v87 =>
 condK v87 (
 bK (gtI v80 (NV.int .i64 (.ofNat 3))) fun v88 =>
 mK (calM call 232 [v78, v81, v88] h85) fun v89 h90 =>
 mK (bslM 1 false [(0, 1)] [(NV.int .u64 (.ofNat 0))] [v89] h90) fun v91 h92 =>
 mK (appM Tryz.prog 47 v82 v91 h92) fun v93 h94 =>
 bK (addI v84 (NV.int .i64 (.ofNat 1))) fun v95 =>
 L86 v78 v79 v80 v81 v93 v83 v95 h94) (
 J56 v79 v81 v82 h85)) v2 v4 v40 v50 NV.nslice v51 (NV.int .i64 (.ofNat 0)) h47)))))
theorem e219 : ikB Tryz.prog 6 Tryz.f219 = S219 := by kernel_rfl
theorem k219 (w0 : World) : SOK cW w0 219 S219 := okW Tryz.func219 (by kernel_rfl) e219
noncomputable def S220 (call : CallF) (N : Nat) (l : List NV) (h : H) : R :=
 uc l fun v0 l1 => uc l1 fun v2 l3 => uc l3 fun v4 l5 => un l5 (
 bK (eqI v4 (NV.int .i64 (.ofNat 4))) fun v6 =>
 condK v6 (
 bK (nilO v2) fun v7 =>
 bK (fAddr 0 v7) fun v8 =>
 bK (ldO 1 false h v8) fun v9 =>
 bK (nilO v9) fun v10 =>
 bK (fAddr 11 v10) fun v11 =>
 bK (ixA 7 1 v11 (NV.int .i64 (.ofNat 0))) fun v12 =>
 bK (ldO 1 false h v12) fun v13 =>
 retC v13 h) (
 bK (eqI v4 (NV.int .i64 (.ofNat 7))) fun v14 =>
 condK v14 (
 bK (nilO v0) fun v15 =>
 bK (fAddr 1 v15) fun v16 =>
 bK (ldO 1 false h v16) fun v17 =>
 retC v17 h) (
 bK (eqI v4 (NV.int .i64 (.ofNat 8))) fun v18 =>
 condK v18 (
 bK (nilO v2) fun v19 =>
 bK (fAddr 0 v19) fun v20 =>
 bK (ldO 1 false h v20) fun v21 =>
 bK (nilO v21) fun v22 =>
 bK (fAddr 11 v22) fun v23 =>
 bK (ixA 7 1 v23 (NV.int .i64 (.ofNat 3))) fun v24 =>
 bK (ldO 1 false h v24) fun v25 =>
 retC v25 h) (
 bK (eqI v4 (NV.int .i64 (.ofNat 21))) fun v26 =>
 condK v26 (
 bK (nilO v2) fun v27 =>
 bK (fAddr 0 v27) fun v28 =>
 bK (ldO 1 false h v28) fun v29 =>
 bK (nilO v29) fun v30 =>
 bK (fAddr 11 v30) fun v31 =>
 bK (ixA 7 1 v31 (NV.int .i64 (.ofNat 5))) fun v32 =>
 bK (ldO 1 false h v32) fun v33 =>
 retC v33 h) (
 bK (nilO v2) fun v34 =>
 bK (fAddr 0 v34) fun v35 =>
 bK (ldO 1 false h v35) fun v36 =>
 bK (nilO v36) fun v37 =>
 bK (fAddr 11 v37) fun v38 =>
 bK (ixA 7 1 v38 (NV.int .i64 (.ofNat 6))) fun v39 =>
 bK (ldO 1 false h v39) fun v40 =>
 retC v40 h)))))
theorem e220 : ikB Tryz.prog 6 Tryz.f220 = S220 := by kernel_rfl
theorem k220 (w0 : World) : SOK cW w0 220 S220 := okW Tryz.func220 (by kernel_rfl) e220
end Go.Proofs.YtglmbknbbfmhfaaGreatDoor

