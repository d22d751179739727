/- Seat Ytoikhmpgaihiaaa.ZD: the shallow functions of this program, part 1: printed by a program, each held against the staged interpreter by the kernel. -/
import Derived.Test.YtoikhmpgaihiaaaGreatDoorIA
set_option maxRecDepth 100000
set_option linter.unusedVariables false
namespace Go.Proofs.YtoikhmpgaihiaaaGreatDoor
open Go Go.Ne
noncomputable def S55 (call : CallF) (N : Nat) (l : List NV) (h : H) : R :=
 uc l fun v0 l1 => uc l1 fun v2 l3 => uc l3 fun v4 l5 => un l5 (
 bK (nilO v2) fun v6 =>
 bK (ldO 1 false h (chkV h v6)) fun v7 =>
 bK (nilO v0) fun v8 =>
 bK (ldO 1 false h (chkV h v8)) fun v9 =>
 bK (lenSl v9) fun v10 =>
 mK (bslM 1 false [(0, 1)] [(NV.int .i64 (.ofNat 0))] [(chkV h v10)] h) fun v11 h12 =>
 mK (appM Tryz.prog 3 (chkV h12 v7) (chkV h12 v11) h12) fun v13 h14 =>
 nextK h12 h14 (
 bK (nilO v2) fun v15 =>
 mK (stM 1 (chkV h14 v15) (chkV h14 v13) h14) fun v16 h17 =>
 nextK h14 h17 (
 bK (nilO v0) fun v18 =>
 bK (ldO 1 false h17 v18) fun v19 =>
 mK (bslM 1 false [(0, 1)] [NV.nslice] [v4] h17) fun v20 h21 =>
 mK (appM Tryz.prog 66 v19 v20 h21) fun v22 h23 =>
 bK (nilO v0) fun v24 =>
 mK (stM 1 v24 v22 h23) fun v25 h26 =>
 retC (NV.tuple []) h26)))
theorem e55 : ikB Tryz.prog 9 Tryz.f55 = S55 := by kernel_rfl
theorem k55 [Sig] (w0 : World) : SOK cW w0 55 S55 := okW Tryz.func55 (by kernel_rfl) e55
noncomputable def S57 (call : CallF) (N : Nat) (l : List NV) (h : H) : R :=
 uc l fun v0 l1 => uc l1 fun v2 l3 => uc l3 fun v4 l5 => un l5 (
 bK (lenSl v4) fun v6 =>
 bK (cvI .u64 v6) fun v7 =>
 mK (calM call 101 [v0, v2, (NV.int .u64 (.ofNat 0)), v7, v4] h) fun v8 h9 =>
 retC v8 h9)
theorem e57 : ikB Tryz.prog 9 Tryz.f57 = S57 := by kernel_rfl
theorem k57 [Sig] (w0 : World) : SOK cW w0 57 S57 := okW Tryz.func57 (by kernel_rfl) e57
noncomputable def S69 (call : CallF) (N : Nat) (l : List NV) (h : H) : R :=
 uc l fun v0 l1 => un l1 (
 mK (boxM false v0 h) fun v2 h3 =>
 bK (fAddr 0 v2) fun v4 =>
 bK (ldO 1 false h3 v4) fun v5 =>
 mK (calM call 70 [v5] h3) fun v6 h7 =>
 jK (fun v8 h9 =>
 jK (fun v11 h12 =>
 jK (fun v14 h15 =>
 bK (pickO v6 v14 (NV.bool false)) fun v17 =>
 jK (fun v18 h19 =>
 jK (fun v21 h22 =>
 jK (fun v24 h25 =>
 bK (pickO v17 v24 (NV.bool false)) fun v27 =>
 jK (fun v28 h29 =>
 jK (fun v31 h32 =>
 jK (fun v34 h35 =>
 bK (pickO v27 v34 (NV.bool false)) fun v37 =>
 retC v37 h35) fun J36 => gK v27 true (
 mK (calM call 66 [v31] h32) fun v38 h39 =>
 J36 v38 h39) (J36 (NV.tuple []) h32)) fun J33 => gK v27 true (
 bK (ldO 1 false h29 v28) fun v40 =>
 J33 v40 h29) (J33 (NV.tuple []) h29)) fun J30 => gK v27 true (
 bK (fAddr 2 v2) fun v41 =>
 J30 v41 h25) (J30 (NV.tuple []) h25)) fun J26 => gK v17 true (
 bK (leI v21 (NV.int .i64 (.ofNat 3))) fun v42 =>
 J26 v42 h22) (J26 (NV.tuple []) h22)) fun J23 => gK v17 true (
 bK (ldO 1 false h19 v18) fun v43 =>
 J23 v43 h19) (J23 (NV.tuple []) h19)) fun J20 => gK v17 true (
 bK (fAddr 1 v2) fun v44 =>
 J20 v44 h15) (J20 (NV.tuple []) h15)) fun J16 => gK v6 true (
 bK (geI v11 (NV.int .i64 (.ofNat 0))) fun v45 =>
 J16 v45 h12) (J16 (NV.tuple []) h12)) fun J13 => gK v6 true (
 bK (ldO 1 false h9 v8) fun v46 =>
 J13 v46 h9) (J13 (NV.tuple []) h9)) fun J10 => gK v6 true (
 bK (fAddr 1 v2) fun v47 =>
 J10 v47 h7) (J10 (NV.tuple []) h7))
theorem e69 : ikB Tryz.prog 9 Tryz.f69 = S69 := by kernel_rfl
theorem k69 [Sig] (w0 : World) : SOK cW w0 69 S69 := okW Tryz.func69 (by kernel_rfl) e69
noncomputable def S71 (call : CallF) (N : Nat) (l : List NV) (h : H) : R :=
 uc l fun v0 l1 => uc l1 fun v2 l3 => uc l3 fun v4 l5 => un l5 (
 bK (eqI v0 (NV.int .i64 (.ofNat 0))) fun v6 =>
 jK (fun v7 h8 =>
 jK (fun v10 h11 =>
 bK (pickO v6 v10 (NV.bool false)) fun v13 =>
 jK (fun v14 h15 =>
 jK (fun v17 h18 =>
 bK (pickO v13 v17 (NV.bool false)) fun v20 =>
 jK (fun v21 h22 =>
 jK (fun v24 h25 =>
 jK (fun v27 h28 =>
 jK (fun v30 h31 =>
 jK (fun v33 h34 =>
 jK (fun v36 h37 =>
 jK (fun v39 h40 =>
 jK (fun v42 h43 =>
 jK (fun v45 h46 =>
 jK (fun v48 h49 =>
 jK (fun v51 h52 =>
 bK (pickO v20 (NV.bool true) v51) fun v54 =>
 retC v54 h52) fun J53 => gK v20 false (
 bK (pickO v39 v48 (NV.bool false)) fun v55 =>
 J53 v55 h49) (J53 (NV.tuple []) h49)) fun J50 => gK v39 true (
 bK (eqI v45 (NV.int .i64 (.ofNat 0))) fun v56 =>
 J50 v56 h46) (J50 (NV.tuple []) h46)) fun J47 => gK v39 true (
 bK (lenSl v42) fun v57 =>
 J47 v57 h43) (J47 (NV.tuple []) h43)) fun J44 => gK v39 true (
 J44 v4 h40) (J44 (NV.tuple []) h40)) fun J41 => gK v20 false (
 J41 v36 h37) (J41 (NV.tuple []) h37)) fun J38 => gK v20 false (
 bK (pickO v27 v33 (NV.bool false)) fun v58 =>
 J38 v58 h34) (J38 (NV.tuple []) h34)) fun J35 => gK v27 true (
 bK (eqI v30 (NV.int .i64 (.ofNat 0))) fun v59 =>
 J35 v59 h31) (J35 (NV.tuple []) h31)) fun J32 => gK v27 true (
 J32 v2 h28) (J32 (NV.tuple []) h28)) fun J29 => gK v20 false (
 J29 v24 h25) (J29 (NV.tuple []) h25)) fun J26 => gK v20 false (
 bK (neI v21 (NV.int .i64 (.ofNat 0))) fun v60 =>
 J26 v60 h22) (J26 (NV.tuple []) h22)) fun J23 => gK v20 false (
 J23 v0 h18) (J23 (NV.tuple []) h18)) fun J19 => gK v13 true (
 mK (calM call 67 [v14] h15) fun v61 h62 =>
 J19 v61 h62) (J19 (NV.tuple []) h15)) fun J16 => gK v13 true (
 J16 v4 h11) (J16 (NV.tuple []) h11)) fun J12 => gK v6 true (
 mK (calM call 66 [v7] h8) fun v63 h64 =>
 J12 v63 h64) (J12 (NV.tuple []) h8)) fun J9 => gK v6 true (
 J9 v2 h) (J9 (NV.tuple []) h))
theorem e71 : ikB Tryz.prog 9 Tryz.f71 = S71 := by kernel_rfl
theorem k71 [Sig] (w0 : World) : SOK cW w0 71 S71 := okW Tryz.func71 (by kernel_rfl) e71
noncomputable def S75 (call : CallF) (N : Nat) (l : List NV) (h : H) : R :=
 uc l fun v0 l1 => uc l1 fun v2 l3 => un l3 (
 mK (boxM false v0 h) fun v4 h5 =>
 bK (fAddr 0 v4) fun v6 =>
 bK (ldO 1 false h5 v6) fun v7 =>
 bK (eqI v7 (NV.int .i64 (.ofNat 0))) fun v8 =>
 jK (fun v9 h10 =>
 jK (fun v12 h13 =>
 jK (fun v15 h16 =>
 bK (pickO v8 (NV.bool true) v15) fun v18 =>
 jK (fun v19 h20 =>
 jK (fun v22 h23 =>
 jK (fun v25 h26 =>
 jK (fun v28 h29 =>
 jK (fun v31 h32 =>
 jK (fun v34 h35 =>
 jK (fun v37 h38 =>
 jK (fun v40 h41 =>
 bK (pickO v18 v40 (NV.bool false)) fun v43 =>
 retC v43 h41) fun J42 => gK v18 true (
 mK (calV call v19 [v25, v31, v37] h38) fun v44 h45 =>
 J42 v44 h45) (J42 (NV.tuple []) h38)) fun J39 => gK v18 true (
 bK (ldO 1 false h35 v34) fun v46 =>
 J39 v46 h35) (J39 (NV.tuple []) h35)) fun J36 => gK v18 true (
 bK (fAddr 2 v4) fun v47 =>
 J36 v47 h32) (J36 (NV.tuple []) h32)) fun J33 => gK v18 true (
 bK (ldO 1 false h29 v28) fun v48 =>
 J33 v48 h29) (J33 (NV.tuple []) h29)) fun J30 => gK v18 true (
 bK (fAddr 1 v4) fun v49 =>
 J30 v49 h26) (J30 (NV.tuple []) h26)) fun J27 => gK v18 true (
 bK (ldO 1 false h23 v22) fun v50 =>
 J27 v50 h23) (J27 (NV.tuple []) h23)) fun J24 => gK v18 true (
 bK (fAddr 0 v4) fun v51 =>
 J24 v51 h20) (J24 (NV.tuple []) h20)) fun J21 => gK v18 true (
 bK (ldO 1 false h16 v2) fun v52 =>
 J21 v52 h16) (J21 (NV.tuple []) h16)) fun J17 => gK v8 false (
 bK (eqI v12 (NV.int .i64 (.ofNat 1))) fun v53 =>
 J17 v53 h13) (J17 (NV.tuple []) h13)) fun J14 => gK v8 false (
 bK (ldO 1 false h10 v9) fun v54 =>
 J14 v54 h10) (J14 (NV.tuple []) h10)) fun J11 => gK v8 false (
 bK (fAddr 0 v4) fun v55 =>
 J11 v55 h5) (J11 (NV.tuple []) h5))
theorem e75 : ikB Tryz.prog 9 Tryz.f75 = S75 := by kernel_rfl
theorem k75 [Sig] (w0 : World) : SOK cW w0 75 S75 := okW Tryz.func75 (by kernel_rfl) e75
noncomputable def S76 (call : CallF) (N : Nat) (l : List NV) (h : H) : R :=
 uc l fun v0 l1 => uc l1 fun v2 l3 => un l3 (
 mK (boxM false v2 h) fun v4 h5 =>
 mK (calM call 117 [v0, (NV.func (.func 118) [] [v4])] h5) fun v6 h7 =>
 bK (notO v6) fun v8 =>
 retC v8 h7)
theorem e76 : ikB Tryz.prog 9 Tryz.f76 = S76 := by kernel_rfl
theorem k76 [Sig] (w0 : World) : SOK cW w0 76 S76 := okW Tryz.func76 (by kernel_rfl) e76
noncomputable def S77 (call : CallF) (N : Nat) (l : List NV) (h : H) : R :=
 uc l fun v0 l1 => uc l1 fun v2 l3 => un l3 (
 mK (boxM false v2 h) fun v4 h5 =>
 mK (calM call 119 [v0, (NV.func (.func 120) [] [v4])] h5) fun v6 h7 =>
 bK (notO v6) fun v8 =>
 retC v8 h7)
theorem e77 : ikB Tryz.prog 9 Tryz.f77 = S77 := by kernel_rfl
theorem k77 [Sig] (w0 : World) : SOK cW w0 77 S77 := okW Tryz.func77 (by kernel_rfl) e77
noncomputable def S79 (call : CallF) (N : Nat) (l : List NV) (h : H) : R :=
 uc l fun v0 l1 => uc l1 fun v2 l3 => un l3 (
 mK (boxM false v2 h) fun v4 h5 =>
 mK (calM call 121 [v0, (NV.func (.func 122) [] [v4])] h5) fun v6 h7 =>
 bK (notO v6) fun v8 =>
 retC v8 h7)
theorem e79 : ikB Tryz.prog 9 Tryz.f79 = S79 := by kernel_rfl
theorem k79 [Sig] (w0 : World) : SOK cW w0 79 S79 := okW Tryz.func79 (by kernel_rfl) e79
noncomputable def S80 (call : CallF) (N : Nat) (l : List NV) (h : H) : R :=
 uc l fun v0 l1 => uc l1 fun v2 l3 => un l3 (
 mK (boxM false v2 h) fun v4 h5 =>
 mK (calM call 14 [v0, (NV.func (.func 123) [] [v4])] h5) fun v6 h7 =>
 bK (notO v6) fun v8 =>
 retC v8 h7)
theorem e80 : ikB Tryz.prog 9 Tryz.f80 = S80 := by kernel_rfl
theorem k80 [Sig] (w0 : World) : SOK cW w0 80 S80 := okW Tryz.func80 (by kernel_rfl) e80
noncomputable def S82 (call : CallF) (N : Nat) (l : List NV) (h : H) : R :=
 uc l fun v0 l1 => uc l1 fun v2 l3 => un l3 (
 mK (boxM false v2 h) fun v4 h5 =>
 mK (calM call 15 [v0, (NV.func (.func 124) [] [v4])] h5) fun v6 h7 =>
 bK (notO v6) fun v8 =>
 retC v8 h7)
theorem e82 : ikB Tryz.prog 9 Tryz.f82 = S82 := by kernel_rfl
theorem k82 [Sig] (w0 : World) : SOK cW w0 82 S82 := okW Tryz.func82 (by kernel_rfl) e82
noncomputable def S83 (call : CallF) (N : Nat) (l : List NV) (h : H) : R :=
 uc l fun v0 l1 => un l1 (
 mK (boxM false v0 h) fun v2 h3 =>
 bK (fAddr 0 v2) fun v4 =>
 bK (ldO 1 false h3 v4) fun v5 =>
 mK (calM call 66 [v5] h3) fun v6 h7 =>
 jK (fun v8 h9 =>
 jK (fun v11 h12 =>
 jK (fun v14 h15 =>
 bK (pickO v6 v14 (NV.bool false)) fun v17 =>
 jK (fun v18 h19 =>
 jK (fun v21 h22 =>
 jK (fun v24 h25 =>
 jK (fun v27 h28 =>
 jK (fun v30 h31 =>
 jK (fun v33 h34 =>
 jK (fun v36 h37 =>
 bK (pickO v17 v36 (NV.bool false)) fun v39 =>
 retC v39 h37) fun J38 => gK v17 true (
 bK (pickO v24 (NV.bool true) v33) fun v40 =>
 J38 v40 h34) (J38 (NV.tuple []) h34)) fun J35 => gK v24 false (
 bK (eqI v30 (NV.int .i64 (.ofNat 0))) fun v41 =>
 J35 v41 h31) (J35 (NV.tuple []) h31)) fun J32 => gK v24 false (
 bK (ldO 1 false h28 v27) fun v42 =>
 J32 v42 h28) (J32 (NV.tuple []) h28)) fun J29 => gK v24 false (
 bK (fAddr 1 v2) fun v43 =>
 J29 v43 h25) (J29 (NV.tuple []) h25)) fun J26 => gK v17 true (
 J26 v21 h22) (J26 (NV.tuple []) h22)) fun J23 => gK v17 true (
 bK (ldO 1 false h19 v18) fun v44 =>
 J23 v44 h19) (J23 (NV.tuple []) h19)) fun J20 => gK v17 true (
 bK (fAddr 2 v2) fun v45 =>
 J20 v45 h15) (J20 (NV.tuple []) h15)) fun J16 => gK v6 true (
 mK (calM call 66 [v11] h12) fun v46 h47 =>
 J16 v46 h47) (J16 (NV.tuple []) h12)) fun J13 => gK v6 true (
 bK (ldO 1 false h9 v8) fun v48 =>
 J13 v48 h9) (J13 (NV.tuple []) h9)) fun J10 => gK v6 true (
 bK (fAddr 1 v2) fun v49 =>
 J10 v49 h7) (J10 (NV.tuple []) h7))
theorem e83 : ikB Tryz.prog 9 Tryz.f83 = S83 := by kernel_rfl
theorem k83 [Sig] (w0 : World) : SOK cW w0 83 S83 := okW Tryz.func83 (by kernel_rfl) e83
noncomputable def S84 (call : CallF) (N : Nat) (l : List NV) (h : H) : R :=
 uc l fun v0 l1 => uc l1 fun v2 l3 => un l3 (
 mK (boxM false v2 h) fun v4 h5 =>
 mK (calM call 125 [v0, (NV.func (.func 126) [] [v4])] h5) fun v6 h7 =>
 bK (notO v6) fun v8 =>
 retC v8 h7)
theorem e84 : ikB Tryz.prog 9 Tryz.f84 = S84 := by kernel_rfl
theorem k84 [Sig] (w0 : World) : SOK cW w0 84 S84 := okW Tryz.func84 (by kernel_rfl) e84
noncomputable def S85 (call : CallF) (N : Nat) (l : List NV) (h : H) : R :=
 uc l fun v0 l1 => uc l1 fun v2 l3 => un l3 (
 mK (boxM false v2 h) fun v4 h5 =>
 mK (calM call 127 [v0, (NV.func (.func 128) [] [v4])] h5) fun v6 h7 =>
 bK (notO v6) fun v8 =>
 retC v8 h7)
theorem e85 : ikB Tryz.prog 9 Tryz.f85 = S85 := by kernel_rfl
theorem k85 [Sig] (w0 : World) : SOK cW w0 85 S85 := okW Tryz.func85 (by kernel_rfl) e85
noncomputable def S86 (call : CallF) (N : Nat) (l : List NV) (h : H) : R :=
 uc l fun v0 l1 => uc l1 fun v2 l3 => un l3 (
 mK (boxM false v2 h) fun v4 h5 =>
 mK (calM call 129 [v0, (NV.func (.func 130) [] [v4])] h5) fun v6 h7 =>
 bK (notO v6) fun v8 =>
 retC v8 h7)
theorem e86 : ikB Tryz.prog 9 Tryz.f86 = S86 := by kernel_rfl
theorem k86 [Sig] (w0 : World) : SOK cW w0 86 S86 := okW Tryz.func86 (by kernel_rfl) e86
noncomputable def S87 (call : CallF) (N : Nat) (l : List NV) (h : H) : R :=
 uc l fun v0 l1 => uc l1 fun v2 l3 => un l3 (
 mK (boxM false v2 h) fun v4 h5 =>
 mK (calM call 131 [v0, (NV.func (.func 132) [] [v4])] h5) fun v6 h7 =>
 bK (notO v6) fun v8 =>
 retC v8 h7)
theorem e87 : ikB Tryz.prog 9 Tryz.f87 = S87 := by kernel_rfl
theorem k87 [Sig] (w0 : World) : SOK cW w0 87 S87 := okW Tryz.func87 (by kernel_rfl) e87
noncomputable def S88 (call : CallF) (N : Nat) (l : List NV) (h : H) : R :=
 uc l fun v0 l1 => un l1 (
 mK (boxM false v0 h) fun v2 h3 =>
 mK (alM (NB.cells [NV.nilFunc]) h3) fun v4 h5 =>
 mK (stM 1 v4 (NV.func (.func 133) [] []) h5) fun v6 h7 =>
 bK (fAddr 2 v2) fun v8 =>
 bK (ldO 1 false h7 v8) fun v9 =>
 mK (calM call 79 [v9, (NV.func (.func 135) [] [v4])] h7) fun v10 h11 =>
 bK (notO v10) fun v12 =>
 retC v12 h11)
theorem e88 : ikB Tryz.prog 9 Tryz.f88 = S88 := by kernel_rfl
theorem k88 [Sig] (w0 : World) : SOK cW w0 88 S88 := okW Tryz.func88 (by kernel_rfl) e88
noncomputable def S93 (call : CallF) (N : Nat) (l : List NV) (h : H) : R :=
 uc l fun v0 l1 => un l1 (
 mK (boxM false v0 h) fun v2 h3 =>
 bK (ldO 3 true h3 v2) fun v4 =>
 mK (calM call 92 [v4, (NV.int .i64 (.ofNat 65536))] h3) fun v5 h6 =>
 bK (notO v5) fun v7 =>
 retC v7 h6)
theorem e93 : ikB Tryz.prog 9 Tryz.f93 = S93 := by kernel_rfl
theorem k93 [Sig] (w0 : World) : SOK cW w0 93 S93 := okW Tryz.func93 (by kernel_rfl) e93
noncomputable def S94 (call : CallF) (N : Nat) (l : List NV) (h : H) : R :=
 uc l fun v0 l1 => uc l1 fun v2 l3 => uc l3 fun v4 l5 => un l5 (
 bK (lenSl v2) fun v6 =>
 bK (neI v6 (NV.int .i64 (.ofNat 1))) fun v7 =>
 condK v7 (
 retC (NV.bool false) h) (
 bK (ixS 9 v2 (NV.int .i64 (.ofNat 0))) fun v8 =>
 bK (ldO 9 true h v8) fun v9 =>
 mK (alM (NB.cells [(NV.int .i64 (.ofNat 0)), (NV.int .i64 (.ofNat 0)), (NV.int .i64 (.ofNat 0)), (NV.int .u64 (.ofNat 0)), (NV.int .u64 (.ofNat 0)), NV.nslice, NV.nslice, NV.nslice, (NV.bool false)]) h) fun v10 h11 =>
 mK (stM 9 v10 v9 h11) fun v12 h13 =>
 bK (fAddr 0 v10) fun v14 =>
 bK (ldO 1 false h13 v14) fun v15 =>
 bK (geI v15 (NV.int .i64 (.ofNat 65))) fun v16 =>
 jK (fun v17 h18 =>
 jK (fun v20 h21 =>
 jK (fun v23 h24 =>
 bK (pickO v16 v23 (NV.bool false)) fun v26 =>
 jK (fun v27 h28 =>
 jK (fun v30 h31 =>
 jK (fun v33 h34 =>
 bK (pickO v26 (NV.bool true) v33) fun v36 =>
 condK v36 (
 bK (fAddr 0 v10) fun v37 =>
 bK (ldO 1 false h34 v37) fun v38 =>
 mK (calM call 136 [v38] h34) fun v39 h40 =>
 bK (extO 0 v39) fun v41 =>
 bK (extO 1 v39) fun v42 =>
 bK (extO 2 v39) fun v43 =>
 bK (ixS 1 v42 (NV.int .i64 (.ofNat 0))) fun v44 =>
 bK (ldO 1 false h40 v44) fun v45 =>
 bK (eqI v45 v4) fun v46 =>
 retC v46 h40) (
 bK (fAddr 0 v10) fun v47 =>
 bK (ldO 1 false h34 v47) fun v48 =>
 bK (eqI v48 (NV.int .i64 (.ofNat 208))) fun v49 =>
 condK v49 (
 bK (fAddr 1 v10) fun v50 =>
 bK (ldO 1 false h34 v50) fun v51 =>
 bK (eqI v51 v4) fun v52 =>
 retC v52 h34) (
 bK (fAddr 0 v10) fun v53 =>
 bK (ldO 1 false h34 v53) fun v54 =>
 bK (eqI v54 (NV.int .i64 (.ofNat 210))) fun v55 =>
 condK v55 (
 bK (fAddr 1 v10) fun v56 =>
 bK (ldO 1 false h34 (chkV h34 v56)) fun v57 =>
 bK (nilO v0) fun v58 =>
 bK (fAddr 11 v58) fun v59 =>
 bK (ldO 1 false h34 (chkV h34 v59)) fun v60 =>
 bK (lenSl v60) fun v61 =>
 bK (ltI v57 v61) fun v62 =>
 jK (fun v63 h64 =>
 jK (fun v66 h67 =>
 bK (pickO v62 v66 (NV.bool false)) fun v69 =>
 retC v69 h34) fun J68 => gK v62 true (
 bK (eqI v63 (NV.int .i64 (.ofNat 112))) fun v70 =>
 J68 v70 h34) (J68 (NV.tuple []) h34)) fun J65 => gK v62 true (
 J65 v4 h34) (J65 (NV.tuple []) h34)) (
 bK (fAddr 0 v10) fun v71 =>
 bK (ldO 1 false h34 v71) fun v72 =>
 bK (eqI v72 (NV.int .i64 (.ofNat 35))) fun v73 =>
 condK v73 (
 bK (fAddr 1 v10) fun v74 =>
 bK (ldO 1 false h34 (chkV h34 v74)) fun v75 =>
 bK (nilO v0) fun v76 =>
 bK (fAddr 15 v76) fun v77 =>
 bK (ldO 1 false h34 (chkV h34 v77)) fun v78 =>
 bK (ltI v75 v78) fun v79 =>
 jK (fun v80 h81 =>
 jK (fun v83 h84 =>
 jK (fun v86 h87 =>
 jK (fun v89 h90 =>
 jK (fun v92 h93 =>
 jK (fun v95 h96 =>
 jK (fun v98 h99 =>
 jK (fun v101 h102 =>
 jK (fun v104 h105 =>
 jK (fun v107 h108 =>
 bK (pickO v79 v107 (NV.bool false)) fun v110 =>
 jK (fun v111 h112 =>
 jK (fun v114 h115 =>
 jK (fun v117 h118 =>
 jK (fun v120 h121 =>
 jK (fun v123 h124 =>
 jK (fun v126 h127 =>
 jK (fun v129 h130 =>
 jK (fun v132 h133 =>
 jK (fun v135 h136 =>
 jK (fun v138 h139 =>
 jK (fun v141 h142 =>
 bK (pickO v110 v141 (NV.bool false)) fun v144 =>
 retC v144 h34) fun J143 => gK v110 true (
 bK (eqI v135 v138) fun v145 =>
 J143 v145 h34) (J143 (NV.tuple []) h34)) fun J140 => gK v110 true (
 J140 v4 h34) (J140 (NV.tuple []) h34)) fun J137 => gK v110 true (
 bK (ldO 1 false h34 (chkV h34 v132)) fun v146 =>
 J137 v146 h34) (J137 (NV.tuple []) h34)) fun J134 => gK v110 true (
 bK (fAddr 0 v129) fun v147 =>
 J134 v147 h34) (J134 (NV.tuple []) h34)) fun J131 => gK v110 true (
 bK (ixS 2 v120 v126) fun v148 =>
 J131 v148 h34) (J131 (NV.tuple []) h34)) fun J128 => gK v110 true (
 bK (ldO 1 false h34 (chkV h34 v123)) fun v149 =>
 J128 v149 h34) (J128 (NV.tuple []) h34)) fun J125 => gK v110 true (
 bK (fAddr 1 v10) fun v150 =>
 J125 v150 h34) (J125 (NV.tuple []) h34)) fun J122 => gK v110 true (
 bK (ldO 1 false h34 (chkV h34 v117)) fun v151 =>
 J122 v151 h34) (J122 (NV.tuple []) h34)) fun J119 => gK v110 true (
 bK (fAddr 14 v114) fun v152 =>
 J119 v152 h34) (J119 (NV.tuple []) h34)) fun J116 => gK v110 true (
 bK (nilO v111) fun v153 =>
 J116 v153 h34) (J116 (NV.tuple []) h34)) fun J113 => gK v110 true (
 J113 v0 h34) (J113 (NV.tuple []) h34)) fun J109 => gK v79 true (
 bK (notO v104) fun v154 =>
 J109 v154 h34) (J109 (NV.tuple []) h34)) fun J106 => gK v79 true (
 bK (ldO 1 false h34 (chkV h34 v101)) fun v155 =>
 J106 v155 h34) (J106 (NV.tuple []) h34)) fun J103 => gK v79 true (
 bK (fAddr 1 v98) fun v156 =>
 J103 v156 h34) (J103 (NV.tuple []) h34)) fun J100 => gK v79 true (
 bK (ixS 2 v89 v95) fun v157 =>
 J100 v157 h34) (J100 (NV.tuple []) h34)) fun J97 => gK v79 true (
 bK (ldO 1 false h34 (chkV h34 v92)) fun v158 =>
 J97 v158 h34) (J97 (NV.tuple []) h34)) fun J94 => gK v79 true (
 bK (fAddr 1 v10) fun v159 =>
 J94 v159 h34) (J94 (NV.tuple []) h34)) fun J91 => gK v79 true (
 bK (ldO 1 false h34 (chkV h34 v86)) fun v160 =>
 J91 v160 h34) (J91 (NV.tuple []) h34)) fun J88 => gK v79 true (
 bK (fAddr 14 v83) fun v161 =>
 J88 v161 h34) (J88 (NV.tuple []) h34)) fun J85 => gK v79 true (
 bK (nilO v80) fun v162 =>
 J85 v162 h34) (J85 (NV.tuple []) h34)) fun J82 => gK v79 true (
 J82 v0 h34) (J82 (NV.tuple []) h34)) (
 retC (NV.bool false) h34))))) fun J35 => gK v26 false (
 bK (eqI v30 (NV.int .i64 (.ofNat 64780))) fun v163 =>
 J35 v163 h31) (J35 (NV.tuple []) h31)) fun J32 => gK v26 false (
 bK (ldO 1 false h28 v27) fun v164 =>
 J32 v164 h28) (J32 (NV.tuple []) h28)) fun J29 => gK v26 false (
 bK (fAddr 0 v10) fun v165 =>
 J29 v165 h24) (J29 (NV.tuple []) h24)) fun J25 => gK v16 true (
 bK (leI v20 (NV.int .i64 (.ofNat 68))) fun v166 =>
 J25 v166 h21) (J25 (NV.tuple []) h21)) fun J22 => gK v16 true (
 bK (ldO 1 false h18 v17) fun v167 =>
 J22 v167 h18) (J22 (NV.tuple []) h18)) fun J19 => gK v16 true (
 bK (fAddr 0 v10) fun v168 =>
 J19 v168 h13) (J19 (NV.tuple []) h13)))
theorem e94 : ikB Tryz.prog 9 Tryz.f94 = S94 := by kernel_rfl
theorem k94 [Sig] (w0 : World) : SOK cW w0 94 S94 := okW Tryz.func94 (by kernel_rfl) e94
noncomputable def S95 (call : CallF) (N : Nat) (l : List NV) (h : H) : R :=
 uc l fun v0 l1 => un l1 (
 mK (mapM none h) fun v2 h3 =>
 bK (nilO v0) fun v4 =>
 bK (fAddr 0 v4) fun v5 =>
 bK (fAddr 6 v5) fun v6 =>
 bK (ldO 1 false h3 v6) fun v7 =>
 bK (lenSl v7) fun v8 =>
 joinC 0 (fun h9 =>
 retC (NV.bool true) h9) fun J10 =>
 loopC N 5 (fun L17 v11 v12 v13 v14 v15 h16 =>
 bK (ltI v15 v14) fun v18 =>
 condK v18 (
 bK (ixS 3 v13 v15) fun v19 =>
 bK (ldO 3 true h16 v19) fun v20 =>
 mK (alM (NB.cells [(NV.str 0 0), (NV.int .i64 (.ofNat 0)), (NV.int .i64 (.ofNat 0))]) h16) fun v21 h22 =>
 mK (stM 3 v21 v20 h22) fun v23 h24 =>
 bK (nilO v11) fun v25 =>
 bK (fAddr 11 v25) fun v26 =>
 bK (ldO 1 false h24 (chkV h24 v26)) fun v27 =>
 bK (lenSl v27) fun v28 =>
 bK (nilO v11) fun v29 =>
 bK (fAddr 12 v29) fun v30 =>
 bK (ldO 1 false h24 (chkV h24 v30)) fun v31 =>
 bK (lenSl v31) fun v32 =>
 bK (nilO v11) fun v33 =>
 bK (fAddr 13 v33) fun v34 =>
 bK (ldO 1 false h24 (chkV h24 v34)) fun v35 =>
 bK (lenSl v35) fun v36 =>
 bK (nilO v11) fun v37 =>
 bK (fAddr 14 v37) fun v38 =>
 bK (ldO 1 false h24 (chkV h24 v38)) fun v39 =>
 bK (lenSl v39) fun v40 =>
 bK (bldO [(0, 1), (1, 1), (2, 1), (3, 1)] [(NV.int .i64 (.ofNat 0)), (NV.int .i64 (.ofNat 0)), (NV.int .i64 (.ofNat 0)), (NV.int .i64 (.ofNat 0))] [v28, v32, v36, v40]) fun v41 =>
 bK (fAddr 1 v21) fun v42 =>
 bK (ldO 1 false h24 (chkV h24 v42)) fun v43 =>
 bK (ixArr 4 false 1 v41 v43) fun v44 =>
 bK (fAddr 0 v21) fun v45 =>
 bK (ldO 1 false h24 v45) fun v46 =>
 bK (lookO Tryz.prog 9 (NV.bool false) false h24 v12 v46) fun v47 =>
 jK (fun v48 h49 =>
 jK (fun v51 h52 =>
 jK (fun v54 h55 =>
 jK (fun v57 h58 =>
 bK (pickO v47 (NV.bool true) v57) fun v60 =>
 condK v60 (
 retC (NV.bool false) h58) (
 bK (fAddr 0 v21) fun v61 =>
 bK (ldO 1 false h58 v61) fun v62 =>
 mK (updM Tryz.prog 245 v12 v62 (NV.bool true) h58) fun v63 h64 =>
 bK (addI v15 (NV.int .i64 (.ofNat 1))) fun v65 =>
 L17 v11 v12 v13 v14 v65 h64)) fun J59 => gK v47 false (
 bK (geI v51 v54) fun v66 =>
 J59 v66 h55) (J59 (NV.tuple []) h55)) fun J56 => gK v47 false (
 J56 v44 h52) (J56 (NV.tuple []) h52)) fun J53 => gK v47 false (
 bK (ldO 1 false h49 v48) fun v67 =>
 J53 v67 h49) (J53 (NV.tuple []) h49)) fun J50 => gK v47 false (
 bK (fAddr 2 v21) fun v68 =>
 J50 v68 h24) (J50 (NV.tuple []) h24)) (
 J10 h16)) v0 v2 v7 v8 (NV.int .i64 (.ofNat 0)) h3)
theorem e95 : ikB Tryz.prog 9 Tryz.f95 = S95 := by kernel_rfl
theorem k95 [Sig] (w0 : World) : SOK cW w0 95 S95 := okW Tryz.func95 (by kernel_rfl) e95
noncomputable def S96 (call : CallF) (N : Nat) (l : List NV) (h : H) : R :=
 uc l fun v0 l1 => un l1 (
 bK (nilO v0) fun v2 =>
 bK (fAddr 0 v2) fun v3 =>
 bK (fAddr 8 v3) fun v4 =>
 bK (ldO 1 false h v4) fun v5 =>
 bK (lenSl v5) fun v6 =>
 joinC 1 (fun v7 h8 =>
 bK (nilO v7) fun v10 =>
 bK (fAddr 0 v10) fun v11 =>
 bK (fAddr 9 v11) fun v12 =>
 bK (ldO 1 false h8 v12) fun v13 =>
 bK (lenSl v13) fun v14 =>
 joinC 0 (fun h15 =>
 retC (NV.bool true) h15) fun J16 =>
 loopC N 4 (fun L22 v17 v18 v19 v20 h21 =>
 bK (ltI v20 v19) fun v23 =>
 condK v23 (
 bK (ixS 4 v18 v20) fun v24 =>
 bK (ldO 4 true h21 v24) fun v25 =>
 mK (alM (NB.cells [(NV.int .i64 (.ofNat 0)), (NV.int .i64 (.ofNat 0)), NV.nslice, NV.nslice]) h21) fun v26 h27 =>
 mK (stM 4 v26 v25 h27) fun v28 h29 =>
 bK (fAddr 0 v26) fun v30 =>
 bK (ldO 1 false h29 (chkV h29 v30)) fun v31 =>
 bK (eqI v31 (NV.int .i64 (.ofNat 0))) fun v32 =>
 jK (fun v33 h34 =>
 jK (fun v36 h37 =>
 jK (fun v39 h40 =>
 jK (fun v42 h43 =>
 jK (fun v45 h46 =>
 jK (fun v48 h49 =>
 jK (fun v51 h52 =>
 jK (fun v54 h55 =>
 jK (fun v57 h58 =>
 jK (fun v60 h61 =>
 jK (fun v63 h64 =>
 jK (fun v66 h67 =>
 jK (fun v69 h70 =>
 nextK h29 h70 (
 jK (fun v72 h73 =>
 jK (fun v75 h76 =>
 bK (pickO v32 v75 (NV.bool false)) fun v78 =>
 condK v78 (
 retC (NV.bool false) h70) (
 bK (addI v20 (NV.int .i64 (.ofNat 1))) fun v79 =>
 L22 v17 v18 v19 v79 h70)) fun J77 => gK v32 true (
 bK (pickO v57 (NV.bool true) v72) fun v80 =>
 J77 v80 h70) (J77 (NV.tuple []) h70)) fun J74 => gK v57 false (
 bK (notO v69) fun v81 =>
 J74 v81 h70) (J74 (NV.tuple []) h70))) fun J71 => gK v57 false (
 mK (calM call 94 [(chkV h29 v60), (chkV h29 v66), (NV.int .i64 (.ofNat 127))] h29) fun v82 h83 =>
 J71 v82 h83) (J71 (NV.tuple []) h29)) fun J68 => gK v57 false (
 bK (ldO 1 false h29 (chkV h29 v63)) fun v84 =>
 J68 v84 h29) (J68 (NV.tuple []) h29)) fun J65 => gK v57 false (
 bK (fAddr 2 v26) fun v85 =>
 J65 v85 h29) (J65 (NV.tuple []) h29)) fun J62 => gK v57 false (
 J62 v17 h29) (J62 (NV.tuple []) h29)) fun J59 => gK v32 true (
 J59 v54 h29) (J59 (NV.tuple []) h29)) fun J56 => gK v32 true (
 bK (geI v36 v51) fun v86 =>
 J56 v86 h29) (J56 (NV.tuple []) h29)) fun J53 => gK v32 true (
 bK (lenSl v48) fun v87 =>
 J53 v87 h29) (J53 (NV.tuple []) h29)) fun J50 => gK v32 true (
 bK (ldO 1 false h29 (chkV h29 v45)) fun v88 =>
 J50 v88 h29) (J50 (NV.tuple []) h29)) fun J47 => gK v32 true (
 bK (fAddr 13 v42) fun v89 =>
 J47 v89 h29) (J47 (NV.tuple []) h29)) fun J44 => gK v32 true (
 bK (nilO v39) fun v90 =>
 J44 v90 h29) (J44 (NV.tuple []) h29)) fun J41 => gK v32 true (
 J41 v17 h29) (J41 (NV.tuple []) h29)) fun J38 => gK v32 true (
 bK (ldO 1 false h29 (chkV h29 v33)) fun v91 =>
 J38 v91 h29) (J38 (NV.tuple []) h29)) fun J35 => gK v32 true (
 bK (fAddr 1 v26) fun v92 =>
 J35 v92 h29) (J35 (NV.tuple []) h29)) (
 J16 h21)) v7 v13 v14 (NV.int .i64 (.ofNat 0)) h8) fun J9 =>
 loopC N 4 (fun L98 v93 v94 v95 v96 h97 =>
 bK (ltI v96 v95) fun v99 =>
 condK v99 (
 joinC 4 (fun v100 v101 v102 v103 h104 =>
 bK (addI v103 (NV.int .i64 (.ofNat 1))) fun v106 =>
 L98 v100 v101 v102 v106 h104) fun J105 =>
 bK (ixS 5 v94 v96) fun v107 =>
 bK (ldO 5 true h97 v107) fun v108 =>
 mK (alM (NB.cells [(NV.int .i64 (.ofNat 0)), (NV.int .i64 (.ofNat 0)), (NV.int .i64 (.ofNat 0)), NV.nslice, NV.nslice]) h97) fun v109 h110 =>
 mK (stM 5 v109 v108 h110) fun v111 h112 =>
 bK (fAddr 1 v109) fun v113 =>
 bK (ldO 1 false h112 (chkV h112 v113)) fun v114 =>
 bK (eqI v114 (NV.int .i64 (.ofNat 0))) fun v115 =>
 jK (fun v116 h117 =>
 jK (fun v119 h120 =>
 jK (fun v122 h123 =>
 jK (fun v125 h126 =>
 jK (fun v128 h129 =>
 jK (fun v131 h132 =>
 jK (fun v134 h135 =>
 jK (fun v137 h138 =>
 jK (fun v140 h141 =>
 jK (fun v143 h144 =>
 jK (fun v146 h147 =>
 jK (fun v149 h150 =>
 jK (fun v152 h153 =>
 jK (fun v155 h156 =>
 jK (fun v158 h159 =>
 jK (fun v161 h162 =>
 jK (fun v164 h165 =>
 jK (fun v167 h168 =>
 jK (fun v170 h171 =>
 jK (fun v173 h174 =>
 jK (fun v176 h177 =>
 jK (fun v179 h180 =>
 jK (fun v182 h183 =>
 jK (fun v185 h186 =>
 jK (fun v188 h189 =>
 jK (fun v191 h192 =>
 jK (fun v194 h195 =>
 nextK h112 h195 (
 jK (fun v197 h198 =>
 jK (fun v200 h201 =>
 bK (pickO v115 v200 (NV.bool false)) fun v203 =>
 condK v203 (
 retC (NV.bool false) h195) (
 bK (fAddr 4 v109) fun v204 =>
 bK (ldO 1 false h195 v204) fun v205 =>
 bK (lenSl v205) fun v206 =>
 loopC N 8 (fun L216 v207 v208 v209 v210 v211 v212 v213 v214 h215 =>
 bK (ltI v214 v213) fun v217 =>
 condK v217 (
 bK (ixS 1 v212 v214) fun v218 =>
 bK (ldO 1 false h215 v218) fun v219 =>
 bK (fAddr 0 v208) fun v220 =>
 bK (ldO 1 false h215 v220) fun v221 =>
 mK (calM call 94 [v207, v219, v221] h215) fun v222 h223 =>
 bK (notO v222) fun v224 =>
 condK v224 (
 retC (NV.bool false) h223) (
 bK (addI v214 (NV.int .i64 (.ofNat 1))) fun v225 =>
 L216 v207 v208 v209 v210 v211 v212 v213 v225 h223)) (
 J105 v207 v209 v210 v211 h215)) v93 v109 v94 v95 v96 v205 v206 (NV.int .i64 (.ofNat 0)) h195)) fun J202 => gK v115 true (
 bK (pickO v182 (NV.bool true) v197) fun v226 =>
 J202 v226 h195) (J202 (NV.tuple []) h195)) fun J199 => gK v182 false (
 bK (notO v194) fun v227 =>
 J199 v227 h195) (J199 (NV.tuple []) h195))) fun J196 => gK v182 false (
 mK (calM call 94 [(chkV h112 v185), (chkV h112 v191), (NV.int .i64 (.ofNat 127))] h112) fun v228 h229 =>
 J196 v228 h229) (J196 (NV.tuple []) h112)) fun J193 => gK v182 false (
 bK (ldO 1 false h112 (chkV h112 v188)) fun v230 =>
 J193 v230 h112) (J193 (NV.tuple []) h112)) fun J190 => gK v182 false (
 bK (fAddr 3 v109) fun v231 =>
 J190 v231 h112) (J190 (NV.tuple []) h112)) fun J187 => gK v182 false (
 J187 v93 h112) (J187 (NV.tuple []) h112)) fun J184 => gK v115 true (
 J184 v179 h112) (J184 (NV.tuple []) h112)) fun J181 => gK v115 true (
 bK (pickO v140 (NV.bool true) v176) fun v232 =>
 J181 v232 h112) (J181 (NV.tuple []) h112)) fun J178 => gK v140 false (
 bK (neI v167 v173) fun v233 =>
 J178 v233 h112) (J178 (NV.tuple []) h112)) fun J175 => gK v140 false (
 bK (ldO 1 false h112 (chkV h112 v170)) fun v234 =>
 J175 v234 h112) (J175 (NV.tuple []) h112)) fun J172 => gK v140 false (
 bK (fAddr 0 v109) fun v235 =>
 J172 v235 h112) (J172 (NV.tuple []) h112)) fun J169 => gK v140 false (
 bK (ldO 1 false h112 (chkV h112 v164)) fun v236 =>
 J169 v236 h112) (J169 (NV.tuple []) h112)) fun J166 => gK v140 false (
 bK (fAddr 0 v161) fun v237 =>
 J166 v237 h112) (J166 (NV.tuple []) h112)) fun J163 => gK v140 false (
 bK (ixS 4 v152 v158) fun v238 =>
 J163 v238 h112) (J163 (NV.tuple []) h112)) fun J160 => gK v140 false (
 bK (ldO 1 false h112 (chkV h112 v155)) fun v239 =>
 J160 v239 h112) (J160 (NV.tuple []) h112)) fun J157 => gK v140 false (
 bK (fAddr 2 v109) fun v240 =>
 J157 v240 h112) (J157 (NV.tuple []) h112)) fun J154 => gK v140 false (
 bK (ldO 1 false h112 (chkV h112 v149)) fun v241 =>
 J154 v241 h112) (J154 (NV.tuple []) h112)) fun J151 => gK v140 false (
 bK (fAddr 12 v146) fun v242 =>
 J151 v242 h112) (J151 (NV.tuple []) h112)) fun J148 => gK v140 false (
 bK (nilO v143) fun v243 =>
 J148 v243 h112) (J148 (NV.tuple []) h112)) fun J145 => gK v140 false (
 J145 v93 h112) (J145 (NV.tuple []) h112)) fun J142 => gK v115 true (
 J142 v137 h112) (J142 (NV.tuple []) h112)) fun J139 => gK v115 true (
 bK (geI v119 v134) fun v244 =>
 J139 v244 h112) (J139 (NV.tuple []) h112)) fun J136 => gK v115 true (
 bK (lenSl v131) fun v245 =>
 J136 v245 h112) (J136 (NV.tuple []) h112)) fun J133 => gK v115 true (
 bK (ldO 1 false h112 (chkV h112 v128)) fun v246 =>
 J133 v246 h112) (J133 (NV.tuple []) h112)) fun J130 => gK v115 true (
 bK (fAddr 12 v125) fun v247 =>
 J130 v247 h112) (J130 (NV.tuple []) h112)) fun J127 => gK v115 true (
 bK (nilO v122) fun v248 =>
 J127 v248 h112) (J127 (NV.tuple []) h112)) fun J124 => gK v115 true (
 J124 v93 h112) (J124 (NV.tuple []) h112)) fun J121 => gK v115 true (
 bK (ldO 1 false h112 (chkV h112 v116)) fun v249 =>
 J121 v249 h112) (J121 (NV.tuple []) h112)) fun J118 => gK v115 true (
 bK (fAddr 2 v109) fun v250 =>
 J118 v250 h112) (J118 (NV.tuple []) h112)) (
 J9 v93 h97)) v0 v5 v6 (NV.int .i64 (.ofNat 0)) h)
theorem e96 : ikB Tryz.prog 9 Tryz.f96 = S96 := by kernel_rfl
theorem k96 [Sig] (w0 : World) : SOK cW w0 96 S96 := okW Tryz.func96 (by kernel_rfl) e96
noncomputable def S97 (call : CallF) (N : Nat) (l : List NV) (h : H) : R :=
 uc l fun v0 l1 => un l1 (
 bK (nilO v0) fun v2 =>
 bK (fAddr 0 v2) fun v3 =>
 bK (fAddr 2 v3) fun v4 =>
 bK (ldO 1 false h v4) fun v5 =>
 bK (lenSl v5) fun v6 =>
 joinC 0 (fun h7 =>
 retC (NV.bool true) h7) fun J8 =>
 loopC N 4 (fun L14 v9 v10 v11 v12 h13 =>
 bK (ltI v12 v11) fun v15 =>
 condK v15 (
 bK (ixS 3 v10 v12) fun v16 =>
 bK (ldO 3 true h13 v16) fun v17 =>
 mK (alM (NB.cells [(NV.int .i64 (.ofNat 0)), NV.nslice, NV.nslice]) h13) fun v18 h19 =>
 mK (stM 3 v18 v17 h19) fun v20 h21 =>
 bK (nilO v9) fun v22 =>
 bK (fAddr 11 v22) fun v23 =>
 bK (ldO 1 false h21 (chkV h21 v23)) fun v24 =>
 bK (lenSl v24) fun v25 =>
 bK (nilO v9) fun v26 =>
 bK (fAddr 0 v26) fun v27 =>
 bK (fAddr 2 v27) fun v28 =>
 bK (ldO 1 false h21 (chkV h21 v28)) fun v29 =>
 bK (lenSl v29) fun v30 =>
 bK (subI v25 v30) fun v31 =>
 bK (addI v31 v12) fun v32 =>
 mK (calM call 90 [(chkV h21 v9), (chkV h21 v32)] h21) fun v33 h34 =>
 nextK h21 h34 (
 bK (extO 0 v33) fun v35 =>
 bK (extO 1 v33) fun v36 =>
 mK (alM (NB.cells [NV.nslice, NV.nslice]) h34) fun v37 h38 =>
 mK (stM 2 (chkV h38 v37) (chkV h38 v35) h38) fun v39 h40 =>
 nextK h38 h40 (
 bK (fAddr 0 v37) fun v41 =>
 bK (ldO 1 false h40 (chkV h40 v41)) fun v42 =>
 bK (fAddr 1 v18) fun v43 =>
 bK (ldO 1 false h40 (chkV h40 v43)) fun v44 =>
 bK (fAddr 1 v37) fun v45 =>
 bK (ldO 1 false h40 (chkV h40 v45)) fun v46 =>
 mK (bslM 2 false [(0, 1), (1, 1)] [NV.nslice, NV.nslice] [(chkV h40 v42), (chkV h40 v44)] h40) fun v47 h48 =>
 mK (calM call 137 [(chkV h48 v47)] h48) fun v49 h50 =>
 nextK h48 h50 (
 bK (bldO [(0, 1), (1, 1), (2, 1), (6, 1)] [NV.nilptr, NV.nslice, NV.nslice, NV.nslice, NV.nslice, (NV.bool false), (NV.bool false)] [v9, v49, v46, (NV.bool true)]) fun v51 =>
 bK (ldO 1 false h50 (chkV h50 v45)) fun v52 =>
 sameK v52 v46 (
 mK (boxM false (chkV h50 v51) h50) fun v53 h54 =>
 bK (fAddr 1 v37) fun v55 =>
 bK (ldO 1 false h54 v55) fun v56 =>
 bK (fAddr 1 v37) fun v57 =>
 bK (ldO 1 false h54 v57) fun v58 =>
 bK (fAddr 2 v18) fun v59 =>
 bK (ldO 1 false h54 v59) fun v60 =>
 mK (calM call 138 [v53, NV.nslice, v56, v58, v60] h54) fun v61 h62 =>
 bK (nilO v53) fun v63 =>
 bK (fAddr 6 v63) fun v64 =>
 bK (ldO 1 false h62 v64) fun v65 =>
 bK (notO v65) fun v66 =>
 condK v66 (
 retC (NV.bool false) h62) (
 bK (addI v12 (NV.int .i64 (.ofNat 1))) fun v67 =>
 L14 v9 v10 v11 v67 h62)))))) (
 J8 h13)) v0 v5 v6 (NV.int .i64 (.ofNat 0)) h)
theorem e97 : ikB Tryz.prog 9 Tryz.f97 = S97 := by kernel_rfl
theorem k97 [Sig] (w0 : World) : SOK cW w0 97 S97 := okW Tryz.func97 (by kernel_rfl) e97
noncomputable def S98 (call : CallF) (N : Nat) (l : List NV) (h : H) : R :=
 uc l fun v0 l1 => un l1 (
 bK (eqD Tryz.prog .eql 63 h v0 NV.nslice) fun v2 =>
 condK v2 (
 retC NV.nslice h) (
 mK (bslM 0 false [] [] [] h) fun v3 h4 =>
 mK (appM Tryz.prog 65 v3 v0 h4) fun v5 h6 =>
 retC v5 h6))
theorem e98 : ikB Tryz.prog 9 Tryz.f98 = S98 := by kernel_rfl
theorem k98 [Sig] (w0 : World) : SOK cW w0 98 S98 := okW Tryz.func98 (by kernel_rfl) e98
noncomputable def S100 (call : CallF) (N : Nat) (l : List NV) (h : H) : R :=
 uc l fun v0 l1 => uc l1 fun v2 l3 => uc l3 fun v4 l5 => un l5 (
 bK (cvI .u64 v4) fun v6 =>
 bK (leI v0 v6) fun v7 =>
 jK (fun v8 h9 =>
 jK (fun v11 h12 =>
 jK (fun v14 h15 =>
 jK (fun v17 h18 =>
 jK (fun v20 h21 =>
 jK (fun v23 h24 =>
 bK (pickO v7 v23 (NV.bool false)) fun v26 =>
 retC v26 h24) fun J25 => gK v7 true (
 bK (leI v8 v20) fun v27 =>
 J25 v27 h21) (J25 (NV.tuple []) h21)) fun J22 => gK v7 true (
 bK (subI v14 v17) fun v28 =>
 J22 v28 h18) (J22 (NV.tuple []) h18)) fun J19 => gK v7 true (
 J19 v0 h15) (J19 (NV.tuple []) h15)) fun J16 => gK v7 true (
 bK (cvI .u64 v11) fun v29 =>
 J16 v29 h12) (J16 (NV.tuple []) h12)) fun J13 => gK v7 true (
 J13 v4 h9) (J13 (NV.tuple []) h9)) fun J10 => gK v7 true (
 J10 v2 h) (J10 (NV.tuple []) h))
theorem e100 : ikB Tryz.prog 9 Tryz.f100 = S100 := by kernel_rfl
theorem k100 [Sig] (w0 : World) : SOK cW w0 100 S100 := okW Tryz.func100 (by kernel_rfl) e100
noncomputable def S101 (call : CallF) (N : Nat) (l : List NV) (h : H) : R :=
 uc l fun v0 l1 => uc l1 fun v2 l3 => uc l3 fun v4 l5 => uc l5 fun v6 l7 => uc l7 fun v8 l9 => un l9 (
 bK (eqD Tryz.prog .eql 73 h v0 NV.nilptr) fun v10 =>
 condK v10 (
 retC (NV.int .i64 (.ofNat 1)) h) (
 bK (lenSl v8) fun v11 =>
 mK (calM call 100 [v4, v6, v11] h) fun v12 h13 =>
 bK (notO v12) fun v14 =>
 jK (fun v15 h16 =>
 jK (fun v18 h19 =>
 jK (fun v21 h22 =>
 jK (fun v24 h25 =>
 jK (fun v27 h28 =>
 jK (fun v30 h31 =>
 jK (fun v33 h34 =>
 jK (fun v36 h37 =>
 jK (fun v39 h40 =>
 bK (pickO v14 (NV.bool true) v39) fun v42 =>
 condK v42 (
 retC (NV.int .i64 (.ofNat 44)) h40) (
 bK (nilO v0) fun v43 =>
 bK (fAddr 3 v43) fun v44 =>
 bK (ldO 1 false h40 (chkV h40 v44)) fun v45 =>
 bK (slcO Tryz.prog 66 h40 (chkV h40 v45) (some (chkV h40 v2)) none none) fun v46 =>
 bK (addI v4 v6) fun v47 =>
 bK (slcO Tryz.prog 66 h40 (chkV h40 v8) (some (chkV h40 v4)) (some (chkV h40 v47)) none) fun v48 =>
 mK (cpyM Tryz.prog 5 (chkV h40 v46) (chkV h40 v48) h40) fun v49 h50 =>
 nextK h40 h50 (
 retC (NV.int .i64 (.ofNat 0)) h50))) fun J41 => gK v14 false (
 bK (notO v36) fun v51 =>
 J41 v51 h37) (J41 (NV.tuple []) h37)) fun J38 => gK v14 false (
 mK (calM call 100 [v15, v18, v33] h34) fun v52 h53 =>
 J38 v52 h53) (J38 (NV.tuple []) h34)) fun J35 => gK v14 false (
 bK (lenSl v30) fun v54 =>
 J35 v54 h31) (J35 (NV.tuple []) h31)) fun J32 => gK v14 false (
 bK (ldO 1 false h28 v27) fun v55 =>
 J32 v55 h28) (J32 (NV.tuple []) h28)) fun J29 => gK v14 false (
 bK (fAddr 3 v24) fun v56 =>
 J29 v56 h25) (J29 (NV.tuple []) h25)) fun J26 => gK v14 false (
 bK (nilO v21) fun v57 =>
 J26 v57 h22) (J26 (NV.tuple []) h22)) fun J23 => gK v14 false (
 J23 v0 h19) (J23 (NV.tuple []) h19)) fun J20 => gK v14 false (
 J20 v6 h16) (J20 (NV.tuple []) h16)) fun J17 => gK v14 false (
 J17 v2 h13) (J17 (NV.tuple []) h13)))
theorem e101 : ikB Tryz.prog 9 Tryz.f101 = S101 := by kernel_rfl
theorem k101 [Sig] (w0 : World) : SOK cW w0 101 S101 := okW Tryz.func101 (by kernel_rfl) e101
noncomputable def S66 (call : CallF) (N : Nat) (l : List NV) (h : H) : R :=
 uc l fun v0 l1 => un l1 (
 bK (geI v0 (NV.int .i64 (.ofNat 0))) fun v2 =>
 jK (fun v3 h4 =>
 jK (fun v6 h7 =>
 bK (pickO v2 v6 (NV.bool false)) fun v9 =>
 retC v9 h7) fun J8 => gK v2 true (
 bK (ltI v3 (NV.int .i64 (.ofNat 4294967296))) fun v10 =>
 J8 v10 h4) (J8 (NV.tuple []) h4)) fun J5 => gK v2 true (
 J5 v0 h) (J5 (NV.tuple []) h))
theorem e66 : ikB Tryz.prog 9 Tryz.f66 = S66 := by kernel_rfl
theorem k66 [Sig] (w0 : World) : SOK cW w0 66 S66 := okW Tryz.func66 (by kernel_rfl) e66
noncomputable def S67 (call : CallF) (N : Nat) (l : List NV) (h : H) : R :=
 uc l fun v0 l1 => un l1 (
 mK (calM call 112 [v0] h) fun v2 h3 =>
 bK (leI v2 (NV.int .i64 (.ofNat 500))) fun v4 =>
 jK (fun v5 h6 =>
 jK (fun v8 h9 =>
 bK (pickO v4 v8 (NV.bool false)) fun v11 =>
 retC v11 h9) fun J10 => gK v4 true (
 mK (calM call 113 [v5, (NV.func (.func 114) [] [])] h6) fun v12 h13 =>
 J10 v12 h13) (J10 (NV.tuple []) h6)) fun J7 => gK v4 true (
 J7 v0 h3) (J7 (NV.tuple []) h3))
theorem e67 : ikB Tryz.prog 9 Tryz.f67 = S67 := by kernel_rfl
theorem k67 [Sig] (w0 : World) : SOK cW w0 67 S67 := okW Tryz.func67 (by kernel_rfl) e67
noncomputable def S70 (call : CallF) (N : Nat) (l : List NV) (h : H) : R :=
 uc l fun v0 l1 => un l1 (
 mK (rngM v0 h) fun v2 h3 =>
 joinC 0 (fun h4 =>
 retC (NV.bool true) h4) fun J5 =>
 loopC N 2 (fun L9 v6 v7 h8 =>
 mK (nxtM v7 h8) fun v10 h11 =>
 bK (extO 0 v10) fun v12 =>
 condK v12 (
 bK (extO 1 v10) fun v13 =>
 bK (extO 2 v10) fun v14 =>
 bK (eqI v14 (NV.int .i32 (.ofNat 65533))) fun v15 =>
 jK (fun v16 h17 =>
 jK (fun v19 h20 =>
 jK (fun v22 h23 =>
 jK (fun v25 h26 =>
 jK (fun v28 h29 =>
 jK (fun v31 h32 =>
 jK (fun v34 h35 =>
 jK (fun v37 h38 =>
 jK (fun v40 h41 =>
 jK (fun v43 h44 =>
 jK (fun v46 h47 =>
 jK (fun v49 h50 =>
 jK (fun v52 h53 =>
 bK (pickO v15 v52 (NV.bool false)) fun v55 =>
 condK v55 (
 retC (NV.bool false) h53) (
 L9 v6 v7 h53)) fun J54 => gK v15 true (
 bK (pickO v31 (NV.bool true) v49) fun v56 =>
 J54 v56 h50) (J54 (NV.tuple []) h50)) fun J51 => gK v31 false (
 bK (binO .neq v46 (NV.str 3 12435439)) fun v57 =>
 J51 v57 h47) (J51 (NV.tuple []) h47)) fun J48 => gK v31 false (
 bK (slStr v34 (some v37) (some v43)) fun v58 =>
 J48 v58 h44) (J48 (NV.tuple []) h44)) fun J45 => gK v31 false (
 bK (addI v40 (NV.int .i64 (.ofNat 3))) fun v59 =>
 J45 v59 h41) (J45 (NV.tuple []) h41)) fun J42 => gK v31 false (
 J42 v13 h38) (J42 (NV.tuple []) h38)) fun J39 => gK v31 false (
 J39 v13 h35) (J39 (NV.tuple []) h35)) fun J36 => gK v31 false (
 J36 v6 h32) (J36 (NV.tuple []) h32)) fun J33 => gK v15 true (
 J33 v28 h29) (J33 (NV.tuple []) h29)) fun J30 => gK v15 true (
 bK (ltI v25 (NV.int .i64 (.ofNat 3))) fun v60 =>
 J30 v60 h26) (J30 (NV.tuple []) h26)) fun J27 => gK v15 true (
 bK (subI v19 v22) fun v61 =>
 J27 v61 h23) (J27 (NV.tuple []) h23)) fun J24 => gK v15 true (
 J24 v13 h20) (J24 (NV.tuple []) h20)) fun J21 => gK v15 true (
 bK (lenStr v16) fun v62 =>
 J21 v62 h17) (J21 (NV.tuple []) h17)) fun J18 => gK v15 true (
 J18 v6 h11) (J18 (NV.tuple []) h11)) (
 J5 h11)) v0 v2 h3)
theorem e70 : ikB Tryz.prog 9 Tryz.f70 = S70 := by kernel_rfl
theorem k70 [Sig] (w0 : World) : SOK cW w0 70 S70 := okW Tryz.func70 (by kernel_rfl) e70
noncomputable def S117 (call : CallF) (N : Nat) (l : List NV) (h : H) : R :=
 uc l fun v0 l1 => uc l1 fun v2 l3 => un l3 (
 mK (calM call 158 [v0, v2] h) fun v4 h5 =>
 bK (geI v4 (NV.int .i64 (.ofNat 0))) fun v6 =>
 retC v6 h5)
theorem e117 : ikB Tryz.prog 9 Tryz.f117 = S117 := by kernel_rfl
theorem k117 [Sig] (w0 : World) : SOK cW w0 117 S117 := okW Tryz.func117 (by kernel_rfl) e117
noncomputable def S119 (call : CallF) (N : Nat) (l : List NV) (h : H) : R :=
 uc l fun v0 l1 => uc l1 fun v2 l3 => un l3 (
 mK (calM call 159 [v0, v2] h) fun v4 h5 =>
 bK (geI v4 (NV.int .i64 (.ofNat 0))) fun v6 =>
 retC v6 h5)
theorem e119 : ikB Tryz.prog 9 Tryz.f119 = S119 := by kernel_rfl
theorem k119 [Sig] (w0 : World) : SOK cW w0 119 S119 := okW Tryz.func119 (by kernel_rfl) e119
noncomputable def S121 (call : CallF) (N : Nat) (l : List NV) (h : H) : R :=
 uc l fun v0 l1 => uc l1 fun v2 l3 => un l3 (
 mK (calM call 160 [v0, v2] h) fun v4 h5 =>
 bK (geI v4 (NV.int .i64 (.ofNat 0))) fun v6 =>
 retC v6 h5)
theorem e121 : ikB Tryz.prog 9 Tryz.f121 = S121 := by kernel_rfl
theorem k121 [Sig] (w0 : World) : SOK cW w0 121 S121 := okW Tryz.func121 (by kernel_rfl) e121
noncomputable def S124 (call : CallF) (N : Nat) (l : List NV) (h : H) : R :=
 uc l fun v0 l1 => uc l1 fun v2 l3 => un l3 (
 mK (boxM false v0 h) fun v4 h5 =>
 bK (ldO 1 false h5 v2) fun v6 =>
 bK (ldO 3 true h5 v4) fun v7 =>
 mK (calV call v6 [v7] h5) fun v8 h9 =>
 bK (notO v8) fun v10 =>
 retC v10 h9)
theorem e124 : ikB Tryz.prog 9 Tryz.f124 = S124 := by kernel_rfl
theorem k124 [Sig] (w0 : World) : SOK cW w0 124 S124 := okW Tryz.func124 (by kernel_rfl) e124
noncomputable def S125 (call : CallF) (N : Nat) (l : List NV) (h : H) : R :=
 uc l fun v0 l1 => uc l1 fun v2 l3 => un l3 (
 mK (calM call 161 [v0, v2] h) fun v4 h5 =>
 bK (geI v4 (NV.int .i64 (.ofNat 0))) fun v6 =>
 retC v6 h5)
theorem e125 : ikB Tryz.prog 9 Tryz.f125 = S125 := by kernel_rfl
theorem k125 [Sig] (w0 : World) : SOK cW w0 125 S125 := okW Tryz.func125 (by kernel_rfl) e125
noncomputable def S128 (call : CallF) (N : Nat) (l : List NV) (h : H) : R :=
 uc l fun v0 l1 => uc l1 fun v2 l3 => un l3 (
 mK (boxM false v0 h) fun v4 h5 =>
 bK (ldO 1 false h5 v2) fun v6 =>
 bK (ldO 3 true h5 v4) fun v7 =>
 mK (calV call v6 [v7] h5) fun v8 h9 =>
 bK (notO v8) fun v10 =>
 retC v10 h9)
theorem e128 : ikB Tryz.prog 9 Tryz.f128 = S128 := by kernel_rfl
theorem k128 [Sig] (w0 : World) : SOK cW w0 128 S128 := okW Tryz.func128 (by kernel_rfl) e128
noncomputable def S127 (call : CallF) (N : Nat) (l : List NV) (h : H) : R :=
 uc l fun v0 l1 => uc l1 fun v2 l3 => un l3 (
 mK (calM call 162 [v0, v2] h) fun v4 h5 =>
 bK (geI v4 (NV.int .i64 (.ofNat 0))) fun v6 =>
 retC v6 h5)
theorem e127 : ikB Tryz.prog 9 Tryz.f127 = S127 := by kernel_rfl
theorem k127 [Sig] (w0 : World) : SOK cW w0 127 S127 := okW Tryz.func127 (by kernel_rfl) e127
noncomputable def S129 (call : CallF) (N : Nat) (l : List NV) (h : H) : R :=
 uc l fun v0 l1 => uc l1 fun v2 l3 => un l3 (
 mK (calM call 163 [v0, v2] h) fun v4 h5 =>
 bK (geI v4 (NV.int .i64 (.ofNat 0))) fun v6 =>
 retC v6 h5)
theorem e129 : ikB Tryz.prog 9 Tryz.f129 = S129 := by kernel_rfl
theorem k129 [Sig] (w0 : World) : SOK cW w0 129 S129 := okW Tryz.func129 (by kernel_rfl) e129
noncomputable def S132 (call : CallF) (N : Nat) (l : List NV) (h : H) : R :=
 uc l fun v0 l1 => uc l1 fun v2 l3 => un l3 (
 mK (boxM false v0 h) fun v4 h5 =>
 bK (ldO 1 false h5 v2) fun v6 =>
 bK (ldO 4 true h5 v4) fun v7 =>
 mK (calV call v6 [v7] h5) fun v8 h9 =>
 bK (notO v8) fun v10 =>
 retC v10 h9)
theorem e132 : ikB Tryz.prog 9 Tryz.f132 = S132 := by kernel_rfl
theorem k132 [Sig] (w0 : World) : SOK cW w0 132 S132 := okW Tryz.func132 (by kernel_rfl) e132
noncomputable def S131 (call : CallF) (N : Nat) (l : List NV) (h : H) : R :=
 uc l fun v0 l1 => uc l1 fun v2 l3 => un l3 (
 mK (calM call 164 [v0, v2] h) fun v4 h5 =>
 bK (geI v4 (NV.int .i64 (.ofNat 0))) fun v6 =>
 retC v6 h5)
theorem e131 : ikB Tryz.prog 9 Tryz.f131 = S131 := by kernel_rfl
theorem k131 [Sig] (w0 : World) : SOK cW w0 131 S131 := okW Tryz.func131 (by kernel_rfl) e131
noncomputable def S92 (call : CallF) (N : Nat) (l : List NV) (h : H) : R :=
 uc l fun v0 l1 => uc l1 fun v2 l3 => un l3 (
 mK (boxM false v0 h) fun v4 h5 =>
 bK (fAddr 0 v4) fun v6 =>
 bK (ldO 1 false h5 v6) fun v7 =>
 bK (leI v7 v2) fun v8 =>
 jK (fun v9 h10 =>
 jK (fun v12 h13 =>
 jK (fun v15 h16 =>
 jK (fun v18 h19 =>
 jK (fun v21 h22 =>
 jK (fun v24 h25 =>
 jK (fun v27 h28 =>
 jK (fun v30 h31 =>
 jK (fun v33 h34 =>
 jK (fun v36 h37 =>
 jK (fun v39 h40 =>
 jK (fun v42 h43 =>
 jK (fun v45 h46 =>
 jK (fun v48 h49 =>
 jK (fun v51 h52 =>
 jK (fun v54 h55 =>
 bK (pickO v8 v54 (NV.bool false)) fun v57 =>
 retC v57 h55) fun J56 => gK v8 true (
 bK (pickO v18 (NV.bool true) v51) fun v58 =>
 J56 v58 h52) (J56 (NV.tuple []) h52)) fun J53 => gK v18 false (
 bK (pickO v33 v48 (NV.bool false)) fun v59 =>
 J53 v59 h49) (J53 (NV.tuple []) h49)) fun J50 => gK v33 true (
 bK (leI v39 v45) fun v60 =>
 J50 v60 h46) (J50 (NV.tuple []) h46)) fun J47 => gK v33 true (
 bK (ldO 1 false h43 v42) fun v61 =>
 J47 v61 h43) (J47 (NV.tuple []) h43)) fun J44 => gK v33 true (
 bK (fAddr 1 v4) fun v62 =>
 J44 v62 h40) (J44 (NV.tuple []) h40)) fun J41 => gK v33 true (
 bK (ldO 1 false h37 v36) fun v63 =>
 J41 v63 h37) (J41 (NV.tuple []) h37)) fun J38 => gK v33 true (
 bK (fAddr 0 v4) fun v64 =>
 J38 v64 h34) (J38 (NV.tuple []) h34)) fun J35 => gK v18 false (
 J35 v30 h31) (J35 (NV.tuple []) h31)) fun J32 => gK v18 false (
 bK (leI v24 v27) fun v65 =>
 J32 v65 h28) (J32 (NV.tuple []) h28)) fun J29 => gK v18 false (
 J29 v2 h25) (J29 (NV.tuple []) h25)) fun J26 => gK v18 false (
 bK (ldO 1 false h22 v21) fun v66 =>
 J26 v66 h22) (J26 (NV.tuple []) h22)) fun J23 => gK v18 false (
 bK (fAddr 1 v4) fun v67 =>
 J23 v67 h19) (J23 (NV.tuple []) h19)) fun J20 => gK v8 true (
 J20 v15 h16) (J20 (NV.tuple []) h16)) fun J17 => gK v8 true (
 bK (notO v12) fun v68 =>
 J17 v68 h13) (J17 (NV.tuple []) h13)) fun J14 => gK v8 true (
 bK (ldO 1 false h10 v9) fun v69 =>
 J14 v69 h10) (J14 (NV.tuple []) h10)) fun J11 => gK v8 true (
 bK (fAddr 2 v4) fun v70 =>
 J11 v70 h5) (J11 (NV.tuple []) h5))
theorem e92 : ikB Tryz.prog 9 Tryz.f92 = S92 := by kernel_rfl
theorem k92 [Sig] (w0 : World) : SOK cW w0 92 S92 := okW Tryz.func92 (by kernel_rfl) e92
noncomputable def S136 (call : CallF) (N : Nat) (l : List NV) (h : H) : R :=
 uc l fun v0 l1 => un l1 (
 mK (calM call 165 [v0, (NV.int .i64 (.ofNat 2))] h) fun v2 h3 =>
 mK (calM call 166 [v2, (NV.str 1 62)] h3) fun v4 h5 =>
 bK (extO 0 v4) fun v6 =>
 bK (extO 1 v4) fun v7 =>
 bK (extO 2 v4) fun v8 =>
 bK (notO v8) fun v9 =>
 condK v9 (
 retC (NV.tuple [NV.nslice, NV.nslice, (NV.bool false)]) h5) (
 mK (calM call 167 [v6] h5) fun v10 h11 =>
 mK (calM call 167 [v7] h11) fun v12 h13 =>
 retC (NV.tuple [v10, v12, (NV.bool true)]) h13))
theorem e136 : ikB Tryz.prog 9 Tryz.f136 = S136 := by kernel_rfl
theorem k136 [Sig] (w0 : World) : SOK cW w0 136 S136 := okW Tryz.func136 (by kernel_rfl) e136
noncomputable def S112 (call : CallF) (N : Nat) (l : List NV) (h : H) : R :=
 uc l fun v0 l1 => un l1 (
 bK (lenSl v0) fun v2 =>
 joinC 1 (fun v3 h4 =>
 retC v3 h4) fun J5 =>
 loopC N 4 (fun L11 v6 v7 v8 v9 h10 =>
 bK (ltI v9 v8) fun v12 =>
 condK v12 (
 bK (ixS 9 v7 v9) fun v13 =>
 bK (ldO 9 true h10 v13) fun v14 =>
 mK (alM (NB.cells [(NV.int .i64 (.ofNat 0)), (NV.int .i64 (.ofNat 0)), (NV.int .i64 (.ofNat 0)), (NV.int .u64 (.ofNat 0)), (NV.int .u64 (.ofNat 0)), NV.nslice, NV.nslice, NV.nslice, (NV.bool false)]) h10) fun v15 h16 =>
 mK (stM 9 v15 v14 h16) fun v17 h18 =>
 bK (fAddr 6 v15) fun v19 =>
 bK (ldO 1 false h18 (chkV h18 v19)) fun v20 =>
 bK (fAddr 7 v15) fun v21 =>
 bK (ldO 1 false h18 (chkV h18 v21)) fun v22 =>
 mK (calM call 112 [(chkV h18 v20)] h18) fun v23 h24 =>
 nextK h18 h24 (
 bK (ldO 1 false h24 (chkV h24 v21)) fun v25 =>
 sameK v25 v22 (
 mK (calM call 112 [(chkV h24 v22)] h24) fun v26 h27 =>
 nextK h24 h27 (
 bK (foldMM true v23 [v26]) fun v28 =>
 bK (addI (NV.int .i64 (.ofNat 1)) v28) fun v29 =>
 bK (foldMM true v6 [v29]) fun v30 =>
 bK (addI v9 (NV.int .i64 (.ofNat 1))) fun v31 =>
 L11 v30 v7 v8 v31 h27)))) (
 J5 v6 h10)) (NV.int .i64 (.ofNat 0)) v0 v2 (NV.int .i64 (.ofNat 0)) h)
theorem e112 : ikB Tryz.prog 9 Tryz.f112 = S112 := by kernel_rfl
theorem k112 [Sig] (w0 : World) : SOK cW w0 112 S112 := okW Tryz.func112 (by kernel_rfl) e112
noncomputable def S113 (call : CallF) (N : Nat) (l : List NV) (h : H) : R :=
 uc l fun v0 l1 => uc l1 fun v2 l3 => un l3 (
 mK (boxM false v2 h) fun v4 h5 =>
 mK (calM call 152 [v0, (NV.func (.func 153) [] [v4])] h5) fun v6 h7 =>
 retC v6 h7)
theorem e113 : ikB Tryz.prog 9 Tryz.f113 = S113 := by kernel_rfl
theorem k113 [Sig] (w0 : World) : SOK cW w0 113 S113 := okW Tryz.func113 (by kernel_rfl) e113
noncomputable def S114 (call : CallF) (N : Nat) (l : List NV) (h : H) : R :=
 uc l fun v0 l1 => un l1 (
 mK (boxM false v0 h) fun v2 h3 =>
 bK (fAddr 0 v2) fun v4 =>
 bK (ldO 1 false h3 v4) fun v5 =>
 mK (calM call 154 [v5] h3) fun v6 h7 =>
 bK (notO v6) fun v8 =>
 condK v8 (
 retC (NV.bool false) h7) (
 bK (fAddr 0 v2) fun v9 =>
 bK (ldO 1 false h7 v9) fun v10 =>
 mK (calM call 134 [v10] h7) fun v11 h12 =>
 bK (eqI v11 (NV.int .i64 (.ofNat 1))) fun v13 =>
 condK v13 (
 bK (fAddr 1 v2) fun v14 =>
 bK (ldO 1 false h12 v14) fun v15 =>
 bK (eqI v15 (NV.int .i64 (.ofNat 0))) fun v16 =>
 jK (fun v17 h18 =>
 jK (fun v20 h21 =>
 jK (fun v23 h24 =>
 bK (pickO v16 v23 (NV.bool false)) fun v26 =>
 jK (fun v27 h28 =>
 jK (fun v30 h31 =>
 jK (fun v33 h34 =>
 jK (fun v36 h37 =>
 jK (fun v39 h40 =>
 jK (fun v42 h43 =>
 jK (fun v45 h46 =>
 jK (fun v48 h49 =>
 bK (pickO v26 (NV.bool true) v48) fun v51 =>
 jK (fun v52 h53 =>
 jK (fun v55 h56 =>
 jK (fun v58 h59 =>
 jK (fun v61 h62 =>
 jK (fun v64 h65 =>
 jK (fun v67 h68 =>
 jK (fun v70 h71 =>
 jK (fun v73 h74 =>
 bK (pickO v51 (NV.bool true) v73) fun v76 =>
 jK (fun v77 h78 =>
 jK (fun v80 h81 =>
 jK (fun v83 h84 =>
 bK (pickO v76 v83 (NV.bool false)) fun v86 =>
 jK (fun v87 h88 =>
 jK (fun v90 h91 =>
 jK (fun v93 h94 =>
 jK (fun v96 h97 =>
 jK (fun v99 h100 =>
 jK (fun v102 h103 =>
 jK (fun v105 h106 =>
 jK (fun v108 h109 =>
 bK (pickO v86 v108 (NV.bool false)) fun v111 =>
 jK (fun v112 h113 =>
 jK (fun v115 h116 =>
 jK (fun v118 h119 =>
 jK (fun v121 h122 =>
 jK (fun v124 h125 =>
 jK (fun v127 h128 =>
 jK (fun v130 h131 =>
 jK (fun v133 h134 =>
 bK (pickO v111 v133 (NV.bool false)) fun v136 =>
 retC v136 h134) fun J135 => gK v111 true (
 bK (pickO v118 (NV.bool true) v130) fun v137 =>
 J135 v137 h131) (J135 (NV.tuple []) h131)) fun J132 => gK v118 false (
 bK (eqI v127 (NV.int .i64 (.ofNat 0))) fun v138 =>
 J132 v138 h128) (J132 (NV.tuple []) h128)) fun J129 => gK v118 false (
 bK (lenSl v124) fun v139 =>
 J129 v139 h125) (J129 (NV.tuple []) h125)) fun J126 => gK v118 false (
 bK (ldO 1 false h122 v121) fun v140 =>
 J126 v140 h122) (J126 (NV.tuple []) h122)) fun J123 => gK v118 false (
 bK (fAddr 7 v2) fun v141 =>
 J123 v141 h119) (J123 (NV.tuple []) h119)) fun J120 => gK v111 true (
 J120 v115 h116) (J120 (NV.tuple []) h116)) fun J117 => gK v111 true (
 bK (ldO 1 false h113 v112) fun v142 =>
 J117 v142 h113) (J117 (NV.tuple []) h113)) fun J114 => gK v111 true (
 bK (fAddr 8 v2) fun v143 =>
 J114 v143 h109) (J114 (NV.tuple []) h109)) fun J110 => gK v86 true (
 bK (pickO v96 (NV.bool true) v105) fun v144 =>
 J110 v144 h106) (J110 (NV.tuple []) h106)) fun J107 => gK v96 false (
 bK (notO v102) fun v145 =>
 J107 v145 h103) (J107 (NV.tuple []) h103)) fun J104 => gK v96 false (
 bK (ldO 1 false h100 v99) fun v146 =>
 J104 v146 h100) (J104 (NV.tuple []) h100)) fun J101 => gK v96 false (
 bK (fAddr 8 v2) fun v147 =>
 J101 v147 h97) (J101 (NV.tuple []) h97)) fun J98 => gK v86 true (
 J98 v93 h94) (J98 (NV.tuple []) h94)) fun J95 => gK v86 true (
 bK (eqI v90 (NV.int .i64 (.ofNat 4))) fun v148 =>
 J95 v148 h91) (J95 (NV.tuple []) h91)) fun J92 => gK v86 true (
 bK (ldO 1 false h88 v87) fun v149 =>
 J92 v149 h88) (J92 (NV.tuple []) h88)) fun J89 => gK v86 true (
 bK (fAddr 0 v2) fun v150 =>
 J89 v150 h84) (J89 (NV.tuple []) h84)) fun J85 => gK v76 true (
 mK (calM call 155 [v77, v80] h81) fun v151 h152 =>
 J85 v151 h152) (J85 (NV.tuple []) h81)) fun J82 => gK v76 true (
 bK (bldO [(0, 1), (1, 1)] [(NV.bool false), (NV.bool false), (NV.bool false), (NV.bool false), (NV.bool false)] [(NV.bool true), (NV.bool true)]) fun v153 =>
 J82 v153 h78) (J82 (NV.tuple []) h78)) fun J79 => gK v76 true (
 bK (ldO 9 true h74 v2) fun v154 =>
 J79 v154 h74) (J79 (NV.tuple []) h74)) fun J75 => gK v51 false (
 bK (pickO v61 v70 (NV.bool false)) fun v155 =>
 J75 v155 h71) (J75 (NV.tuple []) h71)) fun J72 => gK v61 true (
 mK (calM call 66 [v67] h68) fun v156 h157 =>
 J72 v156 h157) (J72 (NV.tuple []) h68)) fun J69 => gK v61 true (
 bK (ldO 1 false h65 v64) fun v158 =>
 J69 v158 h65) (J69 (NV.tuple []) h65)) fun J66 => gK v61 true (
 bK (fAddr 2 v2) fun v159 =>
 J66 v159 h62) (J66 (NV.tuple []) h62)) fun J63 => gK v51 false (
 J63 v58 h59) (J63 (NV.tuple []) h59)) fun J60 => gK v51 false (
 bK (eqI v55 (NV.int .i64 (.ofNat 2))) fun v160 =>
 J60 v160 h56) (J60 (NV.tuple []) h56)) fun J57 => gK v51 false (
 bK (ldO 1 false h53 v52) fun v161 =>
 J57 v161 h53) (J57 (NV.tuple []) h53)) fun J54 => gK v51 false (
 bK (fAddr 1 v2) fun v162 =>
 J54 v162 h49) (J54 (NV.tuple []) h49)) fun J50 => gK v26 false (
 bK (pickO v36 v45 (NV.bool false)) fun v163 =>
 J50 v163 h46) (J50 (NV.tuple []) h46)) fun J47 => gK v36 true (
 mK (calM call 64 [v42] h43) fun v164 h165 =>
 J47 v164 h165) (J47 (NV.tuple []) h43)) fun J44 => gK v36 true (
 bK (ldO 1 false h40 v39) fun v166 =>
 J44 v166 h40) (J44 (NV.tuple []) h40)) fun J41 => gK v36 true (
 bK (fAddr 2 v2) fun v167 =>
 J41 v167 h37) (J41 (NV.tuple []) h37)) fun J38 => gK v26 false (
 J38 v33 h34) (J38 (NV.tuple []) h34)) fun J35 => gK v26 false (
 bK (eqI v30 (NV.int .i64 (.ofNat 1))) fun v168 =>
 J35 v168 h31) (J35 (NV.tuple []) h31)) fun J32 => gK v26 false (
 bK (ldO 1 false h28 v27) fun v169 =>
 J32 v169 h28) (J32 (NV.tuple []) h28)) fun J29 => gK v26 false (
 bK (fAddr 1 v2) fun v170 =>
 J29 v170 h24) (J29 (NV.tuple []) h24)) fun J25 => gK v16 true (
 bK (eqI v20 (NV.int .i64 (.ofNat 0))) fun v171 =>
 J25 v171 h21) (J25 (NV.tuple []) h21)) fun J22 => gK v16 true (
 bK (ldO 1 false h18 v17) fun v172 =>
 J22 v172 h18) (J22 (NV.tuple []) h18)) fun J19 => gK v16 true (
 bK (fAddr 2 v2) fun v173 =>
 J19 v173 h12) (J19 (NV.tuple []) h12)) (
 bK (fAddr 6 v2) fun v174 =>
 bK (ldO 1 false h12 v174) fun v175 =>
 bK (lenSl v175) fun v176 =>
 bK (fAddr 7 v2) fun v177 =>
 bK (ldO 1 false h12 v177) fun v178 =>
 bK (lenSl v178) fun v179 =>
 bK (addI v176 v179) fun v180 =>
 bK (gtI v180 (NV.int .i64 (.ofNat 0))) fun v181 =>
 jK (fun v182 h183 =>
 jK (fun v185 h186 =>
 bK (pickO v181 (NV.bool true) v185) fun v188 =>
 condK v188 (
 retC (NV.bool false) h186) (
 bK (eqI v11 (NV.int .i64 (.ofNat 2))) fun v189 =>
 joinC 3 (fun v190 v191 v192 h193 =>
 condK v192 (
 bK (ldO 9 true h193 v190) fun v195 =>
 bK (bldO [(0, 1)] [(NV.bool false), (NV.bool false), (NV.bool false), (NV.bool false), (NV.bool false)] [(NV.bool true)]) fun v196 =>
 mK (calM call 155 [v195, v196] h193) fun v197 h198 =>
 jK (fun v199 h200 =>
 jK (fun v202 h203 =>
 jK (fun v205 h206 =>
 bK (pickO v197 v205 (NV.bool false)) fun v208 =>
 retC v208 h206) fun J207 => gK v197 true (
 mK (calM call 66 [v202] h203) fun v209 h210 =>
 J207 v209 h210) (J207 (NV.tuple []) h203)) fun J204 => gK v197 true (
 bK (ldO 1 false h200 v199) fun v211 =>
 J204 v211 h200) (J204 (NV.tuple []) h200)) fun J201 => gK v197 true (
 bK (fAddr 1 v190) fun v212 =>
 J201 v212 h198) (J201 (NV.tuple []) h198)) (
 bK (eqI v191 (NV.int .i64 (.ofNat 3))) fun v213 =>
 condK v213 (
 bK (ldO 9 true h193 v190) fun v214 =>
 bK (bldO [(0, 1), (4, 1)] [(NV.bool false), (NV.bool false), (NV.bool false), (NV.bool false), (NV.bool false)] [(NV.bool true), (NV.bool true)]) fun v215 =>
 mK (calM call 155 [v214, v215] h193) fun v216 h217 =>
 jK (fun v218 h219 =>
 jK (fun v221 h222 =>
 jK (fun v224 h225 =>
 bK (pickO v216 v224 (NV.bool false)) fun v227 =>
 jK (fun v228 h229 =>
 jK (fun v231 h232 =>
 jK (fun v234 h235 =>
 bK (pickO v227 v234 (NV.bool false)) fun v237 =>
 retC v237 h235) fun J236 => gK v227 true (
 mK (calM call 63 [v231, (NV.func (.func 66) [] [])] h232) fun v238 h239 =>
 J236 v238 h239) (J236 (NV.tuple []) h232)) fun J233 => gK v227 true (
 bK (ldO 1 false h229 v228) fun v240 =>
 J233 v240 h229) (J233 (NV.tuple []) h229)) fun J230 => gK v227 true (
 bK (fAddr 5 v190) fun v241 =>
 J230 v241 h225) (J230 (NV.tuple []) h225)) fun J226 => gK v216 true (
 mK (calM call 66 [v221] h222) fun v242 h243 =>
 J226 v242 h243) (J226 (NV.tuple []) h222)) fun J223 => gK v216 true (
 bK (ldO 1 false h219 v218) fun v244 =>
 J223 v244 h219) (J223 (NV.tuple []) h219)) fun J220 => gK v216 true (
 bK (fAddr 1 v190) fun v245 =>
 J220 v245 h217) (J220 (NV.tuple []) h217)) (
 bK (eqI v191 (NV.int .i64 (.ofNat 5))) fun v246 =>
 joinC 3 (fun v247 v248 v249 h250 =>
 condK v249 (
 bK (ldO 9 true h250 v247) fun v252 =>
 bK (bldO [(0, 1), (1, 1)] [(NV.bool false), (NV.bool false), (NV.bool false), (NV.bool false), (NV.bool false)] [(NV.bool true), (NV.bool true)]) fun v253 =>
 mK (calM call 155 [v252, v253] h250) fun v254 h255 =>
 jK (fun v256 h257 =>
 jK (fun v259 h260 =>
 jK (fun v262 h263 =>
 bK (pickO v254 v262 (NV.bool false)) fun v265 =>
 jK (fun v266 h267 =>
 jK (fun v269 h270 =>
 jK (fun v272 h273 =>
 bK (pickO v265 v272 (NV.bool false)) fun v275 =>
 retC v275 h273) fun J274 => gK v265 true (
 mK (calM call 66 [v269] h270) fun v276 h277 =>
 J274 v276 h277) (J274 (NV.tuple []) h270)) fun J271 => gK v265 true (
 bK (ldO 1 false h267 v266) fun v278 =>
 J271 v278 h267) (J271 (NV.tuple []) h267)) fun J268 => gK v265 true (
 bK (fAddr 2 v247) fun v279 =>
 J268 v279 h263) (J268 (NV.tuple []) h263)) fun J264 => gK v254 true (
 mK (calM call 66 [v259] h260) fun v280 h281 =>
 J264 v280 h281) (J264 (NV.tuple []) h260)) fun J261 => gK v254 true (
 bK (ldO 1 false h257 v256) fun v282 =>
 J261 v282 h257) (J261 (NV.tuple []) h257)) fun J258 => gK v254 true (
 bK (fAddr 1 v247) fun v283 =>
 J258 v283 h255) (J258 (NV.tuple []) h255)) (
 bK (eqI v248 (NV.int .i64 (.ofNat 26))) fun v284 =>
 condK v284 (
 bK (ldO 9 true h250 v247) fun v285 =>
 bK (bldO [(0, 1), (1, 1), (4, 1)] [(NV.bool false), (NV.bool false), (NV.bool false), (NV.bool false), (NV.bool false)] [(NV.bool true), (NV.bool true), (NV.bool true)]) fun v286 =>
 mK (calM call 155 [v285, v286] h250) fun v287 h288 =>
 jK (fun v289 h290 =>
 jK (fun v292 h293 =>
 jK (fun v295 h296 =>
 bK (pickO v287 v295 (NV.bool false)) fun v298 =>
 jK (fun v299 h300 =>
 jK (fun v302 h303 =>
 jK (fun v305 h306 =>
 bK (pickO v298 v305 (NV.bool false)) fun v308 =>
 jK (fun v309 h310 =>
 jK (fun v312 h313 =>
 jK (fun v315 h316 =>
 jK (fun v318 h319 =>
 bK (pickO v308 v318 (NV.bool false)) fun v321 =>
 jK (fun v322 h323 =>
 jK (fun v325 h326 =>
 jK (fun v328 h329 =>
 jK (fun v331 h332 =>
 jK (fun v334 h335 =>
 bK (pickO v321 v334 (NV.bool false)) fun v337 =>
 retC v337 h335) fun J336 => gK v321 true (
 mK (calM call 156 [v331] h332) fun v338 h339 =>
 J336 v338 h339) (J336 (NV.tuple []) h332)) fun J333 => gK v321 true (
 bK (ldO 1 false h329 v328) fun v340 =>
 J333 v340 h329) (J333 (NV.tuple []) h329)) fun J330 => gK v321 true (
 bK (ixS 1 v325 (NV.int .i64 (.ofNat 0))) fun v341 =>
 J330 v341 h326) (J330 (NV.tuple []) h326)) fun J327 => gK v321 true (
 bK (ldO 1 false h323 v322) fun v342 =>
 J327 v342 h323) (J327 (NV.tuple []) h323)) fun J324 => gK v321 true (
 bK (fAddr 5 v247) fun v343 =>
 J324 v343 h319) (J324 (NV.tuple []) h319)) fun J320 => gK v308 true (
 bK (eqI v315 (NV.int .i64 (.ofNat 1))) fun v344 =>
 J320 v344 h316) (J320 (NV.tuple []) h316)) fun J317 => gK v308 true (
 bK (lenSl v312) fun v345 =>
 J317 v345 h313) (J317 (NV.tuple []) h313)) fun J314 => gK v308 true (
 bK (ldO 1 false h310 v309) fun v346 =>
 J314 v346 h310) (J314 (NV.tuple []) h310)) fun J311 => gK v308 true (
 bK (fAddr 5 v247) fun v347 =>
 J311 v347 h306) (J311 (NV.tuple []) h306)) fun J307 => gK v298 true (
 mK (calM call 66 [v302] h303) fun v348 h349 =>
 J307 v348 h349) (J307 (NV.tuple []) h303)) fun J304 => gK v298 true (
 bK (ldO 1 false h300 v299) fun v350 =>
 J304 v350 h300) (J304 (NV.tuple []) h300)) fun J301 => gK v298 true (
 bK (fAddr 2 v247) fun v351 =>
 J301 v351 h296) (J301 (NV.tuple []) h296)) fun J297 => gK v287 true (
 mK (calM call 66 [v292] h293) fun v352 h353 =>
 J297 v352 h353) (J297 (NV.tuple []) h293)) fun J294 => gK v287 true (
 bK (ldO 1 false h290 v289) fun v354 =>
 J294 v354 h290) (J294 (NV.tuple []) h290)) fun J291 => gK v287 true (
 bK (fAddr 1 v247) fun v355 =>
 J291 v355 h288) (J291 (NV.tuple []) h288)) (
 bK (eqI v248 (NV.int .i64 (.ofNat 6))) fun v356 =>
 condK v356 (
 bK (ldO 9 true h250 v247) fun v357 =>
 bK (bldO [(4, 1)] [(NV.bool false), (NV.bool false), (NV.bool false), (NV.bool false), (NV.bool false)] [(NV.bool true)]) fun v358 =>
 mK (calM call 155 [v357, v358] h250) fun v359 h360 =>
 jK (fun v361 h362 =>
 jK (fun v364 h365 =>
 jK (fun v367 h368 =>
 bK (pickO v359 v367 (NV.bool false)) fun v370 =>
 retC v370 h368) fun J369 => gK v359 true (
 mK (calM call 63 [v364, (NV.func (.func 64) [] [])] h365) fun v371 h372 =>
 J369 v371 h372) (J369 (NV.tuple []) h365)) fun J366 => gK v359 true (
 bK (ldO 1 false h362 v361) fun v373 =>
 J366 v373 h362) (J366 (NV.tuple []) h362)) fun J363 => gK v359 true (
 bK (fAddr 5 v247) fun v374 =>
 J363 v374 h360) (J363 (NV.tuple []) h360)) (
 bK (eqI v248 (NV.int .i64 (.ofNat 12))) fun v375 =>
 joinC 3 (fun v376 v377 v378 h379 =>
 condK v378 (
 bK (ldO 9 true h379 v376) fun v381 =>
 bK (bldO [(2, 1)] [(NV.bool false), (NV.bool false), (NV.bool false), (NV.bool false), (NV.bool false)] [(NV.bool true)]) fun v382 =>
 mK (calM call 155 [v381, v382] h379) fun v383 h384 =>
 jK (fun v385 h386 =>
 jK (fun v388 h389 =>
 jK (fun v391 h392 =>
 bK (pickO v383 v391 (NV.bool false)) fun v394 =>
 retC v394 h392) fun J393 => gK v383 true (
 bK (ltI v388 (NV.int .u64 (.ofNat 4294967296))) fun v395 =>
 J393 v395 h389) (J393 (NV.tuple []) h389)) fun J390 => gK v383 true (
 bK (ldO 1 false h386 v385) fun v396 =>
 J390 v396 h386) (J390 (NV.tuple []) h386)) fun J387 => gK v383 true (
 bK (fAddr 3 v376) fun v397 =>
 J387 v397 h384) (J387 (NV.tuple []) h384)) (
 bK (eqI v377 (NV.int .i64 (.ofNat 13))) fun v398 =>
 joinC 3 (fun v399 v400 v401 h402 =>
 condK v401 (
 bK (ldO 9 true h402 v399) fun v404 =>
 bK (bldO [(2, 1)] [(NV.bool false), (NV.bool false), (NV.bool false), (NV.bool false), (NV.bool false)] [(NV.bool true)]) fun v405 =>
 mK (calM call 155 [v404, v405] h402) fun v406 h407 =>
 retC v406 h407) (
 bK (eqI v400 (NV.int .i64 (.ofNat 23))) fun v408 =>
 condK v408 (
 bK (ldO 9 true h402 v399) fun v409 =>
 bK (bldO [(2, 1), (3, 1)] [(NV.bool false), (NV.bool false), (NV.bool false), (NV.bool false), (NV.bool false)] [(NV.bool true), (NV.bool true)]) fun v410 =>
 mK (calM call 155 [v409, v410] h402) fun v411 h412 =>
 retC v411 h412) (
 bK (eqI v400 (NV.int .i64 (.ofNat 16))) fun v413 =>
 condK v413 (
 bK (ldO 9 true h402 v399) fun v414 =>
 bK (bldO [(0, 1)] [(NV.bool false), (NV.bool false), (NV.bool false), (NV.bool false), (NV.bool false)] [(NV.bool true)]) fun v415 =>
 mK (calM call 155 [v414, v415] h402) fun v416 h417 =>
 jK (fun v418 h419 =>
 jK (fun v421 h422 =>
 jK (fun v424 h425 =>
 bK (pickO v416 v424 (NV.bool false)) fun v427 =>
 retC v427 h425) fun J426 => gK v416 true (
 mK (calM call 73 [v421] h422) fun v428 h429 =>
 J426 v428 h429) (J426 (NV.tuple []) h422)) fun J423 => gK v416 true (
 bK (ldO 1 false h419 v418) fun v430 =>
 J423 v430 h419) (J423 (NV.tuple []) h419)) fun J420 => gK v416 true (
 bK (fAddr 1 v399) fun v431 =>
 J420 v431 h417) (J420 (NV.tuple []) h417)) (
 bK (eqI v400 (NV.int .i64 (.ofNat 24))) fun v432 =>
 condK v432 (
 bK (ldO 9 true h402 v399) fun v433 =>
 bK (bldO [(4, 1)] [(NV.bool false), (NV.bool false), (NV.bool false), (NV.bool false), (NV.bool false)] [(NV.bool true)]) fun v434 =>
 mK (calM call 155 [v433, v434] h402) fun v435 h436 =>
 jK (fun v437 h438 =>
 jK (fun v440 h441 =>
 jK (fun v443 h444 =>
 jK (fun v446 h447 =>
 bK (pickO v435 v446 (NV.bool false)) fun v449 =>
 jK (fun v450 h451 =>
 jK (fun v453 h454 =>
 jK (fun v456 h457 =>
 bK (pickO v449 v456 (NV.bool false)) fun v459 =>
 retC v459 h457) fun J458 => gK v449 true (
 mK (calM call 63 [v453, (NV.func (.func 156) [] [])] h454) fun v460 h461 =>
 J458 v460 h461) (J458 (NV.tuple []) h454)) fun J455 => gK v449 true (
 bK (ldO 1 false h451 v450) fun v462 =>
 J455 v462 h451) (J455 (NV.tuple []) h451)) fun J452 => gK v449 true (
 bK (fAddr 5 v399) fun v463 =>
 J452 v463 h447) (J452 (NV.tuple []) h447)) fun J448 => gK v435 true (
 bK (eqI v443 (NV.int .i64 (.ofNat 16))) fun v464 =>
 J448 v464 h444) (J448 (NV.tuple []) h444)) fun J445 => gK v435 true (
 bK (lenSl v440) fun v465 =>
 J445 v465 h441) (J445 (NV.tuple []) h441)) fun J442 => gK v435 true (
 bK (ldO 1 false h438 v437) fun v466 =>
 J442 v466 h438) (J442 (NV.tuple []) h438)) fun J439 => gK v435 true (
 bK (fAddr 5 v399) fun v467 =>
 J439 v467 h436) (J439 (NV.tuple []) h436)) (
 bK (eqI v400 (NV.int .i64 (.ofNat 25))) fun v468 =>
 condK v468 (
 bK (ldO 9 true h402 v399) fun v469 =>
 bK (bldO [(0, 1)] [(NV.bool false), (NV.bool false), (NV.bool false), (NV.bool false), (NV.bool false)] [(NV.bool true)]) fun v470 =>
 mK (calM call 155 [v469, v470] h402) fun v471 h472 =>
 jK (fun v473 h474 =>
 jK (fun v476 h477 =>
 jK (fun v479 h480 =>
 bK (pickO v471 v479 (NV.bool false)) fun v482 =>
 retC v482 h480) fun J481 => gK v471 true (
 mK (calM call 156 [v476] h477) fun v483 h484 =>
 J481 v483 h484) (J481 (NV.tuple []) h477)) fun J478 => gK v471 true (
 bK (ldO 1 false h474 v473) fun v485 =>
 J478 v485 h474) (J478 (NV.tuple []) h474)) fun J475 => gK v471 true (
 bK (fAddr 1 v399) fun v486 =>
 J475 v486 h472) (J475 (NV.tuple []) h472)) (
 bK (ldO 9 true h402 v399) fun v487 =>
 bK (bldO [] [(NV.bool false), (NV.bool false), (NV.bool false), (NV.bool false), (NV.bool false)] []) fun v488 =>
 mK (calM call 155 [v487, v488] h402) fun v489 h490 =>
 retC v489 h490)))))) fun J403 =>
 condK v398 (
 J403 v376 v377 v398 h379) (
 bK (eqI v377 (NV.int .i64 (.ofNat 15))) fun v491 =>
 J403 v376 v377 v491 h379))) fun J380 =>
 condK v375 (
 J380 v247 v248 v375 h250) (
 bK (eqI v248 (NV.int .i64 (.ofNat 14))) fun v492 =>
 J380 v247 v248 v492 h250))))) fun J251 =>
 condK v246 (
 J251 v190 v191 v246 h193) (
 bK (eqI v191 (NV.int .i64 (.ofNat 20))) fun v493 =>
 condK v493 (
 J251 v190 v191 v493 h193) (
 bK (eqI v191 (NV.int .i64 (.ofNat 22))) fun v494 =>
 condK v494 (
 J251 v190 v191 v494 h193) (
 bK (eqI v191 (NV.int .i64 (.ofNat 10))) fun v495 =>
 J251 v190 v191 v495 h193)))))) fun J194 =>
 condK v189 (
 J194 v2 v11 v189 h186) (
 bK (eqI v11 (NV.int .i64 (.ofNat 4))) fun v496 =>
 condK v496 (
 J194 v2 v11 v496 h186) (
 bK (eqI v11 (NV.int .i64 (.ofNat 7))) fun v497 =>
 condK v497 (
 J194 v2 v11 v497 h186) (
 bK (eqI v11 (NV.int .i64 (.ofNat 8))) fun v498 =>
 condK v498 (
 J194 v2 v11 v498 h186) (
 bK (eqI v11 (NV.int .i64 (.ofNat 9))) fun v499 =>
 condK v499 (
 J194 v2 v11 v499 h186) (
 bK (eqI v11 (NV.int .i64 (.ofNat 17))) fun v500 =>
 condK v500 (
 J194 v2 v11 v500 h186) (
 bK (eqI v11 (NV.int .i64 (.ofNat 18))) fun v501 =>
 condK v501 (
 J194 v2 v11 v501 h186) (
 bK (eqI v11 (NV.int .i64 (.ofNat 21))) fun v502 =>
 J194 v2 v11 v502 h186))))))))) fun J187 => gK v181 false (
 bK (ldO 1 false h183 v182) fun v503 =>
 J187 v503 h183) (J187 (NV.tuple []) h183)) fun J184 => gK v181 false (
 bK (fAddr 8 v2) fun v504 =>
 J184 v504 h12) (J184 (NV.tuple []) h12))))
theorem e114 : ikB Tryz.prog 9 Tryz.f114 = S114 := by kernel_rfl
theorem k114 [Sig] (w0 : World) : SOK cW w0 114 S114 := okW Tryz.func114 (by kernel_rfl) e114
noncomputable def S158 (call : CallF) (N : Nat) (l : List NV) (h : H) : R :=
 uc l fun v0 l1 => uc l1 fun v2 l3 => un l3 (
 bK (lenSl v0) fun v4 =>
 joinC 0 (fun h5 =>
 retC (NV.int .i64 (.negSucc 0)) h5) fun J6 =>
 loopC N 4 (fun L12 v7 v8 v9 v10 h11 =>
 bK (ltI v10 v9) fun v13 =>
 condK v13 (
 bK (ixS 2 v7 v10) fun v14 =>
 bK (ldO 2 true h11 v14) fun v15 =>
 mK (calV call v8 [v15] h11) fun v16 h17 =>
 condK v16 (
 retC v10 h17) (
 bK (addI v10 (NV.int .i64 (.ofNat 1))) fun v18 =>
 L12 v7 v8 v9 v18 h17)) (
 J6 h11)) v0 v2 v4 (NV.int .i64 (.ofNat 0)) h)
theorem e158 : ikB Tryz.prog 9 Tryz.f158 = S158 := by kernel_rfl
theorem k158 [Sig] (w0 : World) : SOK cW w0 158 S158 := okW Tryz.func158 (by kernel_rfl) e158
noncomputable def S159 (call : CallF) (N : Nat) (l : List NV) (h : H) : R :=
 uc l fun v0 l1 => uc l1 fun v2 l3 => un l3 (
 bK (lenSl v0) fun v4 =>
 joinC 0 (fun h5 =>
 retC (NV.int .i64 (.negSucc 0)) h5) fun J6 =>
 loopC N 4 (fun L12 v7 v8 v9 v10 h11 =>
 bK (ltI v10 v9) fun v13 =>
 condK v13 (
 bK (ixS 13 v7 v10) fun v14 =>
 bK (ldO 13 true h11 v14) fun v15 =>
 mK (calV call v8 [v15] h11) fun v16 h17 =>
 condK v16 (
 retC v10 h17) (
 bK (addI v10 (NV.int .i64 (.ofNat 1))) fun v18 =>
 L12 v7 v8 v9 v18 h17)) (
 J6 h11)) v0 v2 v4 (NV.int .i64 (.ofNat 0)) h)
theorem e159 : ikB Tryz.prog 9 Tryz.f159 = S159 := by kernel_rfl
theorem k159 [Sig] (w0 : World) : SOK cW w0 159 S159 := okW Tryz.func159 (by kernel_rfl) e159
noncomputable def S160 (call : CallF) (N : Nat) (l : List NV) (h : H) : R :=
 uc l fun v0 l1 => uc l1 fun v2 l3 => un l3 (
 bK (lenSl v0) fun v4 =>
 joinC 0 (fun h5 =>
 retC (NV.int .i64 (.negSucc 0)) h5) fun J6 =>
 loopC N 4 (fun L12 v7 v8 v9 v10 h11 =>
 bK (ltI v10 v9) fun v13 =>
 condK v13 (
 bK (ixS 3 v7 v10) fun v14 =>
 bK (ldO 3 true h11 v14) fun v15 =>
 mK (calV call v8 [v15] h11) fun v16 h17 =>
 condK v16 (
 retC v10 h17) (
 bK (addI v10 (NV.int .i64 (.ofNat 1))) fun v18 =>
 L12 v7 v8 v9 v18 h17)) (
 J6 h11)) v0 v2 v4 (NV.int .i64 (.ofNat 0)) h)
theorem e160 : ikB Tryz.prog 9 Tryz.f160 = S160 := by kernel_rfl
theorem k160 [Sig] (w0 : World) : SOK cW w0 160 S160 := okW Tryz.func160 (by kernel_rfl) e160
noncomputable def S161 (call : CallF) (N : Nat) (l : List NV) (h : H) : R :=
 uc l fun v0 l1 => uc l1 fun v2 l3 => un l3 (
 bK (lenSl v0) fun v4 =>
 joinC 0 (fun h5 =>
 retC (NV.int .i64 (.negSucc 0)) h5) fun J6 =>
 loopC N 4 (fun L12 v7 v8 v9 v10 h11 =>
 bK (ltI v10 v9) fun v13 =>
 condK v13 (
 bK (ixS 3 v7 v10) fun v14 =>
 bK (ldO 3 true h11 v14) fun v15 =>
 mK (calV call v8 [v15] h11) fun v16 h17 =>
 condK v16 (
 retC v10 h17) (
 bK (addI v10 (NV.int .i64 (.ofNat 1))) fun v18 =>
 L12 v7 v8 v9 v18 h17)) (
 J6 h11)) v0 v2 v4 (NV.int .i64 (.ofNat 0)) h)
theorem e161 : ikB Tryz.prog 9 Tryz.f161 = S161 := by kernel_rfl
theorem k161 [Sig] (w0 : World) : SOK cW w0 161 S161 := okW Tryz.func161 (by kernel_rfl) e161
noncomputable def S162 (call : CallF) (N : Nat) (l : List NV) (h : H) : R :=
 uc l fun v0 l1 => uc l1 fun v2 l3 => un l3 (
 bK (lenSl v0) fun v4 =>
 joinC 0 (fun h5 =>
 retC (NV.int .i64 (.negSucc 0)) h5) fun J6 =>
 loopC N 4 (fun L12 v7 v8 v9 v10 h11 =>
 bK (ltI v10 v9) fun v13 =>
 condK v13 (
 bK (ixS 3 v7 v10) fun v14 =>
 bK (ldO 3 true h11 v14) fun v15 =>
 mK (calV call v8 [v15] h11) fun v16 h17 =>
 condK v16 (
 retC v10 h17) (
 bK (addI v10 (NV.int .i64 (.ofNat 1))) fun v18 =>
 L12 v7 v8 v9 v18 h17)) (
 J6 h11)) v0 v2 v4 (NV.int .i64 (.ofNat 0)) h)
theorem e162 : ikB Tryz.prog 9 Tryz.f162 = S162 := by kernel_rfl
theorem k162 [Sig] (w0 : World) : SOK cW w0 162 S162 := okW Tryz.func162 (by kernel_rfl) e162
noncomputable def S163 (call : CallF) (N : Nat) (l : List NV) (h : H) : R :=
 uc l fun v0 l1 => uc l1 fun v2 l3 => un l3 (
 bK (lenSl v0) fun v4 =>
 joinC 0 (fun h5 =>
 retC (NV.int .i64 (.negSucc 0)) h5) fun J6 =>
 loopC N 4 (fun L12 v7 v8 v9 v10 h11 =>
 bK (ltI v10 v9) fun v13 =>
 condK v13 (
 bK (ixS 5 v7 v10) fun v14 =>
 bK (ldO 5 true h11 v14) fun v15 =>
 mK (calV call v8 [v15] h11) fun v16 h17 =>
 condK v16 (
 retC v10 h17) (
 bK (addI v10 (NV.int .i64 (.ofNat 1))) fun v18 =>
 L12 v7 v8 v9 v18 h17)) (
 J6 h11)) v0 v2 v4 (NV.int .i64 (.ofNat 0)) h)
theorem e163 : ikB Tryz.prog 9 Tryz.f163 = S163 := by kernel_rfl
theorem k163 [Sig] (w0 : World) : SOK cW w0 163 S163 := okW Tryz.func163 (by kernel_rfl) e163
noncomputable def S164 (call : CallF) (N : Nat) (l : List NV) (h : H) : R :=
 uc l fun v0 l1 => uc l1 fun v2 l3 => un l3 (
 bK (lenSl v0) fun v4 =>
 joinC 0 (fun h5 =>
 retC (NV.int .i64 (.negSucc 0)) h5) fun J6 =>
 loopC N 4 (fun L12 v7 v8 v9 v10 h11 =>
 bK (ltI v10 v9) fun v13 =>
 condK v13 (
 bK (ixS 4 v7 v10) fun v14 =>
 bK (ldO 4 true h11 v14) fun v15 =>
 mK (calV call v8 [v15] h11) fun v16 h17 =>
 condK v16 (
 retC v10 h17) (
 bK (addI v10 (NV.int .i64 (.ofNat 1))) fun v18 =>
 L12 v7 v8 v9 v18 h17)) (
 J6 h11)) v0 v2 v4 (NV.int .i64 (.ofNat 0)) h)
theorem e164 : ikB Tryz.prog 9 Tryz.f164 = S164 := by kernel_rfl
theorem k164 [Sig] (w0 : World) : SOK cW w0 164 S164 := okW Tryz.func164 (by kernel_rfl) e164
noncomputable def S134 (call : CallF) (N : Nat) (l : List NV) (h : H) : R :=
 uc l fun v0 l1 => un l1 (
 mK (calM call 165 [v0, (NV.int .i64 (.ofNat 1))] h) fun v2 h3 =>
 mK (s2bM v2 h3) fun v4 h5 =>
 bK (lenSl v4) fun v6 =>
 joinC 1 (fun v7 h8 =>
 retC v7 h8) fun J9 =>
 loopC N 4 (fun L15 v10 v11 v12 v13 h14 =>
 bK (ltI v13 v12) fun v16 =>
 condK v16 (
 bK (ixS 1 v11 v13) fun v17 =>
 bK (ldO 1 false h14 v17) fun v18 =>
 bK (binO .mul (NV.int .i64 (.ofNat 10)) v10) fun v19 =>
 bK (subI v18 (NV.int .u8 (.ofNat 48))) fun v20 =>
 bK (cvI .i64 v20) fun v21 =>
 bK (addI v19 v21) fun v22 =>
 bK (addI v13 (NV.int .i64 (.ofNat 1))) fun v23 =>
 L15 v22 v11 v12 v23 h14) (
 J9 v10 h14)) (NV.int .i64 (.ofNat 0)) v4 v6 (NV.int .i64 (.ofNat 0)) h5)
theorem e134 : ikB Tryz.prog 9 Tryz.f134 = S134 := by kernel_rfl
theorem k134 [Sig] (w0 : World) : SOK cW w0 134 S134 := okW Tryz.func134 (by kernel_rfl) e134
noncomputable def S165 (call : CallF) (N : Nat) (l : List NV) (h : H) : R :=
 uc l fun v0 l1 => uc l1 fun v2 l3 => un l3 (
 mK (calM call 195 [v0] h) fun v4 h5 =>
 mK (calM call 197 [v4] h5) fun v6 h7 =>
 bK (lenSl v6) fun v8 =>
 bK (ltI v2 v8) fun v9 =>
 condK v9 (
 bK (ixS 1 v6 v2) fun v10 =>
 bK (ldO 1 false h7 v10) fun v11 =>
 retC v11 h7) (
 retC (NV.str 0 0) h7))
theorem e165 : ikB Tryz.prog 9 Tryz.f165 = S165 := by kernel_rfl
theorem k165 [Sig] (w0 : World) : SOK cW w0 165 S165 := okW Tryz.func165 (by kernel_rfl) e165
noncomputable def S166 (call : CallF) (N : Nat) (l : List NV) (h : H) : R :=
 uc l fun v0 l1 => uc l1 fun v2 l3 => un l3 (
 mK (calM call 198 [v0, v2] h) fun v4 h5 =>
 bK (extO 0 v4) fun v6 =>
 bK (extO 1 v4) fun v7 =>
 bK (extO 2 v4) fun v8 =>
 retC (NV.tuple [v6, v7, v8]) h5)
theorem e166 : ikB Tryz.prog 9 Tryz.f166 = S166 := by kernel_rfl
theorem k166 [Sig] (w0 : World) : SOK cW w0 166 S166 := okW Tryz.func166 (by kernel_rfl) e166
noncomputable def S167 (call : CallF) (N : Nat) (l : List NV) (h : H) : R :=
 uc l fun v0 l1 => un l1 (
 mK (s2bM v0 h) fun v2 h3 =>
 bK (lenSl v2) fun v4 =>
 joinC 1 (fun v5 h6 =>
 retC v5 h6) fun J7 =>
 loopC N 4 (fun L13 v8 v9 v10 v11 h12 =>
 bK (ltI v11 v10) fun v14 =>
 condK v14 (
 bK (ixS 1 v9 v11) fun v15 =>
 bK (ldO 1 false h12 v15) fun v16 =>
 bK (eqI v16 (NV.int .u8 (.ofNat 105))) fun v17 =>
 joinC 4 (fun v18 v19 v20 v21 h22 =>
 bK (addI v21 (NV.int .i64 (.ofNat 1))) fun v24 =>
 L13 v18 v19 v20 v24 h22) fun J23 =>
 condK v17 (
 mK (bslM 1 false [(0, 1)] [(NV.int .i64 (.ofNat 0))] [(NV.int .i64 (.ofNat 127))] h12) fun v25 h26 =>
 mK (appM Tryz.prog 3 v8 v25 h26) fun v27 h28 =>
 J23 v27 v9 v10 v11 h28) (
 bK (eqI v16 (NV.int .u8 (.ofNat 108))) fun v29 =>
 condK v29 (
 mK (bslM 1 false [(0, 1)] [(NV.int .i64 (.ofNat 0))] [(NV.int .i64 (.ofNat 126))] h12) fun v30 h31 =>
 mK (appM Tryz.prog 3 v8 v30 h31) fun v32 h33 =>
 J23 v32 v9 v10 v11 h33) (
 bK (eqI v16 (NV.int .u8 (.ofNat 102))) fun v34 =>
 condK v34 (
 mK (bslM 1 false [(0, 1)] [(NV.int .i64 (.ofNat 0))] [(NV.int .i64 (.ofNat 125))] h12) fun v35 h36 =>
 mK (appM Tryz.prog 3 v8 v35 h36) fun v37 h38 =>
 J23 v37 v9 v10 v11 h38) (
 bK (eqI v16 (NV.int .u8 (.ofNat 100))) fun v39 =>
 condK v39 (
 mK (bslM 1 false [(0, 1)] [(NV.int .i64 (.ofNat 0))] [(NV.int .i64 (.ofNat 124))] h12) fun v40 h41 =>
 mK (appM Tryz.prog 3 v8 v40 h41) fun v42 h43 =>
 J23 v42 v9 v10 v11 h43) (
 bK (eqI v16 (NV.int .u8 (.ofNat 118))) fun v44 =>
 condK v44 (
 mK (bslM 1 false [(0, 1)] [(NV.int .i64 (.ofNat 0))] [(NV.int .i64 (.ofNat 123))] h12) fun v45 h46 =>
 mK (appM Tryz.prog 3 v8 v45 h46) fun v47 h48 =>
 J23 v47 v9 v10 v11 h48) (
 mK (bslM 1 false [(0, 1)] [(NV.int .i64 (.ofNat 0))] [(NV.int .i64 (.ofNat 112))] h12) fun v49 h50 =>
 mK (appM Tryz.prog 3 v8 v49 h50) fun v51 h52 =>
 J23 v51 v9 v10 v11 h52)))))) (
 J7 v8 h12)) NV.nslice v2 v4 (NV.int .i64 (.ofNat 0)) h3)
theorem e167 : ikB Tryz.prog 9 Tryz.f167 = S167 := by kernel_rfl
theorem k167 [Sig] (w0 : World) : SOK cW w0 167 S167 := okW Tryz.func167 (by kernel_rfl) e167
noncomputable def S154 (call : CallF) (N : Nat) (l : List NV) (h : H) : R :=
 uc l fun v0 l1 => un l1 (
 mK (calM call 195 [v0] h) fun v2 h3 =>
 bK (binO .neq v2 (NV.str 0 0)) fun v4 =>
 retC v4 h3)
theorem e154 : ikB Tryz.prog 9 Tryz.f154 = S154 := by kernel_rfl
theorem k154 [Sig] (w0 : World) : SOK cW w0 154 S154 := okW Tryz.func154 (by kernel_rfl) e154
noncomputable def S153 (call : CallF) (N : Nat) (l : List NV) (h : H) : R :=
 uc l fun v0 l1 => uc l1 fun v2 l3 => un l3 (
 mK (boxM false v0 h) fun v4 h5 =>
 bK (ldO 1 false h5 v2) fun v6 =>
 bK (ldO 9 true h5 v4) fun v7 =>
 mK (calV call v6 [v7] h5) fun v8 h9 =>
 jK (fun v10 h11 =>
 jK (fun v13 h14 =>
 jK (fun v16 h17 =>
 jK (fun v19 h20 =>
 bK (pickO v8 v19 (NV.bool false)) fun v22 =>
 jK (fun v23 h24 =>
 jK (fun v26 h27 =>
 jK (fun v29 h30 =>
 jK (fun v32 h33 =>
 bK (pickO v22 v32 (NV.bool false)) fun v35 =>
 retC v35 h33) fun J34 => gK v22 true (
 mK (calM call 113 [v26, v29] h30) fun v36 h37 =>
 J34 v36 h37) (J34 (NV.tuple []) h30)) fun J31 => gK v22 true (
 bK (ldO 1 false h27 v2) fun v38 =>
 J31 v38 h27) (J31 (NV.tuple []) h27)) fun J28 => gK v22 true (
 bK (ldO 1 false h24 v23) fun v39 =>
 J28 v39 h24) (J28 (NV.tuple []) h24)) fun J25 => gK v22 true (
 bK (fAddr 7 v4) fun v40 =>
 J25 v40 h20) (J25 (NV.tuple []) h20)) fun J21 => gK v8 true (
 mK (calM call 113 [v13, v16] h17) fun v41 h42 =>
 J21 v41 h42) (J21 (NV.tuple []) h17)) fun J18 => gK v8 true (
 bK (ldO 1 false h14 v2) fun v43 =>
 J18 v43 h14) (J18 (NV.tuple []) h14)) fun J15 => gK v8 true (
 bK (ldO 1 false h11 v10) fun v44 =>
 J15 v44 h11) (J15 (NV.tuple []) h11)) fun J12 => gK v8 true (
 bK (fAddr 6 v4) fun v45 =>
 J12 v45 h9) (J12 (NV.tuple []) h9))
theorem e153 : ikB Tryz.prog 9 Tryz.f153 = S153 := by kernel_rfl
theorem k153 [Sig] (w0 : World) : SOK cW w0 153 S153 := okW Tryz.func153 (by kernel_rfl) e153
noncomputable def S152 (call : CallF) (N : Nat) (l : List NV) (h : H) : R :=
 uc l fun v0 l1 => uc l1 fun v2 l3 => un l3 (
 mK (boxM false v2 h) fun v4 h5 =>
 mK (calM call 193 [v0, (NV.func (.func 194) [] [v4])] h5) fun v6 h7 =>
 bK (notO v6) fun v8 =>
 retC v8 h7)
theorem e152 : ikB Tryz.prog 9 Tryz.f152 = S152 := by kernel_rfl
theorem k152 [Sig] (w0 : World) : SOK cW w0 152 S152 := okW Tryz.func152 (by kernel_rfl) e152
noncomputable def S155 (call : CallF) (N : Nat) (l : List NV) (h : H) : R :=
 uc l fun v0 l1 => uc l1 fun v2 l3 => un l3 (
 mK (boxM false v0 h) fun v4 h5 =>
 mK (boxM false v2 h5) fun v6 h7 =>
 bK (ldO 9 true h7 v4) fun v8 =>
 mK (calM call 196 [v8] h7) fun v9 h10 =>
 mK (alM (NB.cells [(NV.bool false), (NV.bool false), (NV.bool false), (NV.bool false), (NV.bool false)]) h10) fun v11 h12 =>
 mK (stM 5 v11 v9 h12) fun v13 h14 =>
 bK (fAddr 0 v11) fun v15 =>
 bK (ldO 1 false h14 v15) fun v16 =>
 jK (fun v17 h18 =>
 jK (fun v20 h21 =>
 jK (fun v23 h24 =>
 bK (pickO v16 v23 (NV.bool false)) fun v26 =>
 jK (fun v27 h28 =>
 jK (fun v30 h31 =>
 jK (fun v33 h34 =>
 jK (fun v36 h37 =>
 jK (fun v39 h40 =>
 jK (fun v42 h43 =>
 jK (fun v45 h46 =>
 bK (pickO v26 (NV.bool true) v45) fun v48 =>
 jK (fun v49 h50 =>
 jK (fun v52 h53 =>
 jK (fun v55 h56 =>
 jK (fun v58 h59 =>
 jK (fun v61 h62 =>
 jK (fun v64 h65 =>
 jK (fun v67 h68 =>
 bK (pickO v48 (NV.bool true) v67) fun v70 =>
 jK (fun v71 h72 =>
 jK (fun v74 h75 =>
 jK (fun v77 h78 =>
 jK (fun v80 h81 =>
 jK (fun v83 h84 =>
 jK (fun v86 h87 =>
 jK (fun v89 h90 =>
 bK (pickO v70 (NV.bool true) v89) fun v92 =>
 jK (fun v93 h94 =>
 jK (fun v96 h97 =>
 jK (fun v99 h100 =>
 jK (fun v102 h103 =>
 jK (fun v105 h106 =>
 jK (fun v108 h109 =>
 jK (fun v111 h112 =>
 bK (pickO v92 (NV.bool true) v111) fun v114 =>
 bK (notO v114) fun v115 =>
 retC v115 h112) fun J113 => gK v92 false (
 bK (pickO v99 v108 (NV.bool false)) fun v116 =>
 J113 v116 h109) (J113 (NV.tuple []) h109)) fun J110 => gK v99 true (
 bK (notO v105) fun v117 =>
 J110 v117 h106) (J110 (NV.tuple []) h106)) fun J107 => gK v99 true (
 bK (ldO 1 false h103 v102) fun v118 =>
 J107 v118 h103) (J107 (NV.tuple []) h103)) fun J104 => gK v99 true (
 bK (fAddr 4 v6) fun v119 =>
 J104 v119 h100) (J104 (NV.tuple []) h100)) fun J101 => gK v92 false (
 J101 v96 h97) (J101 (NV.tuple []) h97)) fun J98 => gK v92 false (
 bK (ldO 1 false h94 v93) fun v120 =>
 J98 v120 h94) (J98 (NV.tuple []) h94)) fun J95 => gK v92 false (
 bK (fAddr 4 v11) fun v121 =>
 J95 v121 h90) (J95 (NV.tuple []) h90)) fun J91 => gK v70 false (
 bK (pickO v77 v86 (NV.bool false)) fun v122 =>
 J91 v122 h87) (J91 (NV.tuple []) h87)) fun J88 => gK v77 true (
 bK (notO v83) fun v123 =>
 J88 v123 h84) (J88 (NV.tuple []) h84)) fun J85 => gK v77 true (
 bK (ldO 1 false h81 v80) fun v124 =>
 J85 v124 h81) (J85 (NV.tuple []) h81)) fun J82 => gK v77 true (
 bK (fAddr 3 v6) fun v125 =>
 J82 v125 h78) (J82 (NV.tuple []) h78)) fun J79 => gK v70 false (
 J79 v74 h75) (J79 (NV.tuple []) h75)) fun J76 => gK v70 false (
 bK (ldO 1 false h72 v71) fun v126 =>
 J76 v126 h72) (J76 (NV.tuple []) h72)) fun J73 => gK v70 false (
 bK (fAddr 3 v11) fun v127 =>
 J73 v127 h68) (J73 (NV.tuple []) h68)) fun J69 => gK v48 false (
 bK (pickO v55 v64 (NV.bool false)) fun v128 =>
 J69 v128 h65) (J69 (NV.tuple []) h65)) fun J66 => gK v55 true (
 bK (notO v61) fun v129 =>
 J66 v129 h62) (J66 (NV.tuple []) h62)) fun J63 => gK v55 true (
 bK (ldO 1 false h59 v58) fun v130 =>
 J63 v130 h59) (J63 (NV.tuple []) h59)) fun J60 => gK v55 true (
 bK (fAddr 2 v6) fun v131 =>
 J60 v131 h56) (J60 (NV.tuple []) h56)) fun J57 => gK v48 false (
 J57 v52 h53) (J57 (NV.tuple []) h53)) fun J54 => gK v48 false (
 bK (ldO 1 false h50 v49) fun v132 =>
 J54 v132 h50) (J54 (NV.tuple []) h50)) fun J51 => gK v48 false (
 bK (fAddr 2 v11) fun v133 =>
 J51 v133 h46) (J51 (NV.tuple []) h46)) fun J47 => gK v26 false (
 bK (pickO v33 v42 (NV.bool false)) fun v134 =>
 J47 v134 h43) (J47 (NV.tuple []) h43)) fun J44 => gK v33 true (
 bK (notO v39) fun v135 =>
 J44 v135 h40) (J44 (NV.tuple []) h40)) fun J41 => gK v33 true (
 bK (ldO 1 false h37 v36) fun v136 =>
 J41 v136 h37) (J41 (NV.tuple []) h37)) fun J38 => gK v33 true (
 bK (fAddr 1 v6) fun v137 =>
 J38 v137 h34) (J38 (NV.tuple []) h34)) fun J35 => gK v26 false (
 J35 v30 h31) (J35 (NV.tuple []) h31)) fun J32 => gK v26 false (
 bK (ldO 1 false h28 v27) fun v138 =>
 J32 v138 h28) (J32 (NV.tuple []) h28)) fun J29 => gK v26 false (
 bK (fAddr 1 v11) fun v139 =>
 J29 v139 h24) (J29 (NV.tuple []) h24)) fun J25 => gK v16 true (
 bK (notO v20) fun v140 =>
 J25 v140 h21) (J25 (NV.tuple []) h21)) fun J22 => gK v16 true (
 bK (ldO 1 false h18 v17) fun v141 =>
 J22 v141 h18) (J22 (NV.tuple []) h18)) fun J19 => gK v16 true (
 bK (fAddr 0 v6) fun v142 =>
 J19 v142 h14) (J19 (NV.tuple []) h14))
theorem e155 : ikB Tryz.prog 9 Tryz.f155 = S155 := by kernel_rfl
theorem k155 [Sig] (w0 : World) : SOK cW w0 155 S155 := okW Tryz.func155 (by kernel_rfl) e155
noncomputable def S195 (call : CallF) (N : Nat) (l : List NV) (h : H) : R :=
 uc l fun v0 l1 => un l1 (
 bK (geI v0 (NV.int .i64 (.ofNat 0))) fun v2 =>
 jK (fun v3 h4 =>
 jK (fun v6 h7 =>
 bK (pickO v2 v6 (NV.bool false)) fun v9 =>
 condK v9 (
 mK (calM call 220 [] h7) fun v10 h11 =>
 bK (ixArr 211 false 1 v10 v0) fun v12 =>
 retC v12 h11) (
 bK (geI v0 (NV.int .i64 (.ofNat 64512))) fun v13 =>
 jK (fun v14 h15 =>
 jK (fun v17 h18 =>
 bK (pickO v13 v17 (NV.bool false)) fun v20 =>
 condK v20 (
 bK (subI v0 (NV.int .i64 (.ofNat 64512))) fun v21 =>
 bK (ixA 18 1 (NV.ptr .h 0) v21) fun v22 =>
 bK (ldO 1 false h18 v22) fun v23 =>
 retC v23 h18) (
 bK (geI v0 (NV.int .i64 (.ofNat 64768))) fun v24 =>
 jK (fun v25 h26 =>
 jK (fun v28 h29 =>
 bK (pickO v24 v28 (NV.bool false)) fun v31 =>
 condK v31 (
 mK (calM call 221 [] h29) fun v32 h33 =>
 bK (subI v0 (NV.int .i64 (.ofNat 64768))) fun v34 =>
 bK (ixArr 256 false 1 v32 v34) fun v35 =>
 retC v35 h33) (
 retC (NV.str 0 0) h29)) fun J30 => gK v24 true (
 bK (ltI v25 (NV.int .i64 (.ofNat 65024))) fun v36 =>
 J30 v36 h26) (J30 (NV.tuple []) h26)) fun J27 => gK v24 true (
 J27 v0 h18) (J27 (NV.tuple []) h18))) fun J19 => gK v13 true (
 bK (ltI v14 (NV.int .i64 (.ofNat 64530))) fun v37 =>
 J19 v37 h15) (J19 (NV.tuple []) h15)) fun J16 => gK v13 true (
 J16 v0 h7) (J16 (NV.tuple []) h7))) fun J8 => gK v2 true (
 bK (ltI v3 (NV.int .i64 (.ofNat 211))) fun v38 =>
 J8 v38 h4) (J8 (NV.tuple []) h4)) fun J5 => gK v2 true (
 J5 v0 h) (J5 (NV.tuple []) h))
theorem e195 : ikB Tryz.prog 9 Tryz.f195 = S195 := by kernel_rfl
theorem k195 [Sig] (w0 : World) : SOK cW w0 195 S195 := okW Tryz.func195 (by kernel_rfl) e195
noncomputable def S197 (call : CallF) (N : Nat) (l : List NV) (h : H) : R :=
 uc l fun v0 l1 => un l1 (
 joinC 3 (fun v2 v3 v4 h5 =>
 bK (geI v4 (NV.int .u8 (.ofNat 128))) fun v7 =>
 condK v7 (
 mK (calM call 222 [v2, (NV.func (.func 223) [] [])] h5) fun v8 h9 =>
 retC v8 h9) (
 mK (mslM 16 false (NV.str 0 0) v3 v3 h5) fun v10 h11 =>
 joinC 4 (fun v12 v13 v14 v15 h16 =>
 joinC 4 (fun v18 v19 v20 v21 h22 =>
 bK (lenStr v18) fun v24 =>
 bK (ltI v21 v24) fun v25 =>
 joinC 1 (fun v26 h27 =>
 retC v26 h27) fun J28 =>
 condK v25 (
 bK (slStr v18 (some v21) none) fun v29 =>
 bK (ixS 1 v19 v20) fun v30 =>
 mK (stM 1 v30 v29 h22) fun v31 h32 =>
 J28 v19 h32) (
 J28 v19 h22)) fun J23 =>
 loopC N 5 (fun L39 v33 v34 v35 v36 v37 h38 =>
 bK (lenStr v33) fun v40 =>
 bK (ltI v37 v40) fun v41 =>
 condK v41 (
 bK (ixStr v33 v37) fun v42 =>
 bK (ixA 256 1 (NV.ptr (.o .h) 0) v42) fun v43 =>
 bK (ldO 1 false h38 v43) fun v44 =>
 bK (eqI v44 (NV.int .u8 (.ofNat 0))) fun v45 =>
 condK v45 (
 bK (addI v37 (NV.int .i64 (.ofNat 1))) fun v46 =>
 L39 v33 v34 v35 v36 v46 h38) (
 bK (slStr v33 (some v36) (some v37)) fun v47 =>
 bK (ixS 1 v34 v35) fun v48 =>
 mK (stM 1 v48 v47 h38) fun v49 h50 =>
 bK (addI v35 (NV.int .i64 (.ofNat 1))) fun v51 =>
 bK (addI v37 (NV.int .i64 (.ofNat 1))) fun v52 =>
 joinC 4 (fun v53 v54 v55 v56 h57 =>
 L39 v53 v54 v55 v56 v56 h57) fun J58 =>
 loopC N 4 (fun L64 v59 v60 v61 v62 h63 =>
 bK (lenStr v59) fun v65 =>
 bK (ltI v62 v65) fun v66 =>
 jK (fun v67 h68 =>
 jK (fun v70 h71 =>
 jK (fun v73 h74 =>
 jK (fun v76 h77 =>
 jK (fun v79 h80 =>
 jK (fun v82 h83 =>
 bK (pickO v66 v82 (NV.bool false)) fun v85 =>
 condK v85 (
 bK (addI v62 (NV.int .i64 (.ofNat 1))) fun v86 =>
 L64 v59 v60 v61 v86 h83) (
 J58 v59 v60 v61 v62 h83)) fun J84 => gK v66 true (
 bK (neI v79 (NV.int .u8 (.ofNat 0))) fun v87 =>
 J84 v87 h80) (J84 (NV.tuple []) h80)) fun J81 => gK v66 true (
 bK (ldO 1 false h77 v76) fun v88 =>
 J81 v88 h77) (J81 (NV.tuple []) h77)) fun J78 => gK v66 true (
 bK (ixA 256 1 (NV.ptr (.o .h) 0) v73) fun v89 =>
 J78 v89 h74) (J78 (NV.tuple []) h74)) fun J75 => gK v66 true (
 bK (ixStr v67 v70) fun v90 =>
 J75 v90 h71) (J75 (NV.tuple []) h71)) fun J72 => gK v66 true (
 J72 v62 h68) (J72 (NV.tuple []) h68)) fun J69 => gK v66 true (
 J69 v59 h63) (J69 (NV.tuple []) h63)) v33 v34 v51 v52 h50)) (
 J23 v33 v34 v35 v36 h38)) v12 v13 v14 v15 v15 h16) fun J17 =>
 loopC N 4 (fun L96 v91 v92 v93 v94 h95 =>
 bK (lenStr v91) fun v97 =>
 bK (ltI v94 v97) fun v98 =>
 jK (fun v99 h100 =>
 jK (fun v102 h103 =>
 jK (fun v105 h106 =>
 jK (fun v108 h109 =>
 jK (fun v111 h112 =>
 jK (fun v114 h115 =>
 bK (pickO v98 v114 (NV.bool false)) fun v117 =>
 condK v117 (
 bK (addI v94 (NV.int .i64 (.ofNat 1))) fun v118 =>
 L96 v91 v92 v93 v118 h115) (
 J17 v91 v92 v93 v94 h115)) fun J116 => gK v98 true (
 bK (neI v111 (NV.int .u8 (.ofNat 0))) fun v119 =>
 J116 v119 h112) (J116 (NV.tuple []) h112)) fun J113 => gK v98 true (
 bK (ldO 1 false h109 v108) fun v120 =>
 J113 v120 h109) (J113 (NV.tuple []) h109)) fun J110 => gK v98 true (
 bK (ixA 256 1 (NV.ptr (.o .h) 0) v105) fun v121 =>
 J110 v121 h106) (J110 (NV.tuple []) h106)) fun J107 => gK v98 true (
 bK (ixStr v99 v102) fun v122 =>
 J107 v122 h103) (J107 (NV.tuple []) h103)) fun J104 => gK v98 true (
 J104 v94 h100) (J104 (NV.tuple []) h100)) fun J101 => gK v98 true (
 J101 v91 h95) (J101 (NV.tuple []) h95)) v2 v10 (NV.int .i64 (.ofNat 0)) (NV.int .i64 (.ofNat 0)) h11)) fun J6 =>
 loopC N 5 (fun L129 v123 v124 v125 v126 v127 h128 =>
 bK (lenStr v123) fun v130 =>
 bK (ltI v127 v130) fun v131 =>
 condK v131 (
 bK (ixStr v123 v127) fun v132 =>
 bK (binO .or v126 v132) fun v133 =>
 bK (ixA 256 1 (NV.ptr (.o .h) 0) v132) fun v134 =>
 bK (ldO 1 false h128 v134) fun v135 =>
 bK (cvI .i64 v135) fun v136 =>
 bK (unO .xor v136) fun v137 =>
 bK (binO .and v125 v137) fun v138 =>
 bK (addI v124 v138) fun v139 =>
 bK (addI v127 (NV.int .i64 (.ofNat 1))) fun v140 =>
 L129 v123 v139 v136 v133 v140 h128) (
 J6 v123 v124 v126 h128)) v0 (NV.int .i64 (.ofNat 0)) (NV.int .i64 (.ofNat 1)) (NV.int .u8 (.ofNat 0)) (NV.int .i64 (.ofNat 0)) h)
theorem e197 : ikB Tryz.prog 9 Tryz.f197 = S197 := by kernel_rfl
theorem k197 [Sig] (w0 : World) : SOK cW w0 197 S197 := okW Tryz.func197 (by kernel_rfl) e197
noncomputable def S198 (call : CallF) (N : Nat) (l : List NV) (h : H) : R :=
 uc l fun v0 l1 => uc l1 fun v2 l3 => un l3 (
 mK (calM call 224 [v0, v2] h) fun v4 h5 =>
 bK (geI v4 (NV.int .i64 (.ofNat 0))) fun v6 =>
 condK v6 (
 bK (slStr v0 none (some v4)) fun v7 =>
 bK (lenStr v2) fun v8 =>
 bK (addI v4 v8) fun v9 =>
 bK (slStr v0 (some v9) none) fun v10 =>
 retC (NV.tuple [v7, v10, (NV.bool true)]) h5) (
 retC (NV.tuple [v0, (NV.str 0 0), (NV.bool false)]) h5))
theorem e198 : ikB Tryz.prog 9 Tryz.f198 = S198 := by kernel_rfl
theorem k198 [Sig] (w0 : World) : SOK cW w0 198 S198 := okW Tryz.func198 (by kernel_rfl) e198
noncomputable def S194 (call : CallF) (N : Nat) (l : List NV) (h : H) : R :=
 uc l fun v0 l1 => uc l1 fun v2 l3 => un l3 (
 mK (boxM false v0 h) fun v4 h5 =>
 bK (ldO 1 false h5 v2) fun v6 =>
 bK (ldO 9 true h5 v4) fun v7 =>
 mK (calV call v6 [v7] h5) fun v8 h9 =>
 bK (notO v8) fun v10 =>
 retC v10 h9)
theorem e194 : ikB Tryz.prog 9 Tryz.f194 = S194 := by kernel_rfl
theorem k194 [Sig] (w0 : World) : SOK cW w0 194 S194 := okW Tryz.func194 (by kernel_rfl) e194
noncomputable def S193 (call : CallF) (N : Nat) (l : List NV) (h : H) : R :=
 uc l fun v0 l1 => uc l1 fun v2 l3 => un l3 (
 mK (calM call 219 [v0, v2] h) fun v4 h5 =>
 bK (geI v4 (NV.int .i64 (.ofNat 0))) fun v6 =>
 retC v6 h5)
theorem e193 : ikB Tryz.prog 9 Tryz.f193 = S193 := by kernel_rfl
theorem k193 [Sig] (w0 : World) : SOK cW w0 193 S193 := okW Tryz.func193 (by kernel_rfl) e193
noncomputable def S196 (call : CallF) (N : Nat) (l : List NV) (h : H) : R :=
 uc l fun v0 l1 => un l1 (
 mK (boxM false v0 h) fun v2 h3 =>
 mK (alM (NB.cells [(NV.bool false), (NV.bool false), (NV.bool false), (NV.bool false), (NV.bool false)]) h3) fun v4 h5 =>
 bK (fAddr 1 v2) fun v6 =>
 bK (ldO 1 false h5 v6) fun v7 =>
 bK (neI v7 (NV.int .i64 (.ofNat 0))) fun v8 =>
 bK (fAddr 2 v2) fun v9 =>
 bK (ldO 1 false h5 v9) fun v10 =>
 bK (neI v10 (NV.int .i64 (.ofNat 0))) fun v11 =>
 bK (fAddr 3 v2) fun v12 =>
 bK (ldO 1 false h5 v12) fun v13 =>
 bK (neI v13 (NV.int .u64 (.ofNat 0))) fun v14 =>
 bK (fAddr 4 v2) fun v15 =>
 bK (ldO 1 false h5 v15) fun v16 =>
 bK (neI v16 (NV.int .u64 (.ofNat 0))) fun v17 =>
 bK (fAddr 5 v2) fun v18 =>
 bK (ldO 1 false h5 v18) fun v19 =>
 bK (lenSl v19) fun v20 =>
 bK (gtI v20 (NV.int .i64 (.ofNat 0))) fun v21 =>
 bK (bldO [(0, 1), (1, 1), (2, 1), (3, 1), (4, 1)] [(NV.bool false), (NV.bool false), (NV.bool false), (NV.bool false), (NV.bool false)] [v8, v11, v14, v17, v21]) fun v22 =>
 mK (stM 5 v4 v22 h5) fun v23 h24 =>
 bK (ldB 5 true h24 v4) fun v25 =>
 retC v25 h24)
theorem e196 : ikB Tryz.prog 9 Tryz.f196 = S196 := by kernel_rfl
theorem k196 [Sig] (w0 : World) : SOK cW w0 196 S196 := okW Tryz.func196 (by kernel_rfl) e196
noncomputable def S220 (call : CallF) (N : Nat) (l : List NV) (h : H) : R :=
 un l (
 mK (alM (NB.cells [(NV.str 0 0), (NV.str 0 0), (NV.str 0 0), (NV.str 0 0), (NV.str 0 0), (NV.str 0 0), (NV.str 0 0), (NV.str 0 0), (NV.str 0 0), (NV.str 0 0), (NV.str 0 0), (NV.str 0 0), (NV.str 0 0), (NV.str 0 0), (NV.str 0 0), (NV.str 0 0), (NV.str 0 0), (NV.str 0 0), (NV.str 0 0), (NV.str 0 0), (NV.str 0 0), (NV.str 0 0), (NV.str 0 0), (NV.str 0 0), (NV.str 0 0), (NV.str 0 0), (NV.str 0 0), (NV.str 0 0), (NV.str 0 0), (NV.str 0 0), (NV.str 0 0), (NV.str 0 0), (NV.str 0 0), (NV.str 0 0), (NV.str 0 0), (NV.str 0 0), (NV.str 0 0), (NV.str 0 0), (NV.str 0 0), (NV.str 0 0), (NV.str 0 0), (NV.str 0 0), (NV.str 0 0), (NV.str 0 0), (NV.str 0 0), (NV.str 0 0), (NV.str 0 0), (NV.str 0 0), (NV.str 0 0), (NV.str 0 0), (NV.str 0 0), (NV.str 0 0), (NV.str 0 0), (NV.str 0 0), (NV.str 0 0), (NV.str 0 0), (NV.str 0 0), (NV.str 0 0), (NV.str 0 0), (NV.str 0 0), (NV.str 0 0), (NV.str 0 0), (NV.str 0 0), (NV.str 0 0), (NV.str 0 0), (NV.str 0 0), (NV.str 0 0), (NV.str 0 0), (NV.str 0 0), (NV.str 0 0), (NV.str 0 0), (NV.str 0 0), (NV.str 0 0), (NV.str 0 0), (NV.str 0 0), (NV.str 0 0), (NV.str 0 0), (NV.str 0 0), (NV.str 0 0), (NV.str 0 0), (NV.str 0 0), (NV.str 0 0), (NV.str 0 0), (NV.str 0 0), (NV.str 0 0), (NV.str 0 0), (NV.str 0 0), (NV.str 0 0), (NV.str 0 0), (NV.str 0 0), (NV.str 0 0), (NV.str 0 0), (NV.str 0 0), (NV.str 0 0), (NV.str 0 0), (NV.str 0 0), (NV.str 0 0), (NV.str 0 0), (NV.str 0 0), (NV.str 0 0), (NV.str 0 0), (NV.str 0 0), (NV.str 0 0), (NV.str 0 0), (NV.str 0 0), (NV.str 0 0), (NV.str 0 0), (NV.str 0 0), (NV.str 0 0), (NV.str 0 0), (NV.str 0 0), (NV.str 0 0), (NV.str 0 0), (NV.str 0 0), (NV.str 0 0), (NV.str 0 0), (NV.str 0 0), (NV.str 0 0), (NV.str 0 0), (NV.str 0 0), (NV.str 0 0), (NV.str 0 0), (NV.str 0 0), (NV.str 0 0), (NV.str 0 0), (NV.str 0 0), (NV.str 0 0), (NV.str 0 0), (NV.str 0 0), (NV.str 0 0), (NV.str 0 0), (NV.str 0 0), (NV.str 0 0), (NV.str 0 0), (NV.str 0 0), (NV.str 0 0), (NV.str 0 0), (NV.str 0 0), (NV.str 0 0), (NV.str 0 0), (NV.str 0 0), (NV.str 0 0), (NV.str 0 0), (NV.str 0 0), (NV.str 0 0), (NV.str 0 0), (NV.str 0 0), (NV.str 0 0), (NV.str 0 0), (NV.str 0 0), (NV.str 0 0), (NV.str 0 0), (NV.str 0 0), (NV.str 0 0), (NV.str 0 0), (NV.str 0 0), (NV.str 0 0), (NV.str 0 0), (NV.str 0 0), (NV.str 0 0), (NV.str 0 0), (NV.str 0 0), (NV.str 0 0), (NV.str 0 0), (NV.str 0 0), (NV.str 0 0), (NV.str 0 0), (NV.str 0 0), (NV.str 0 0), (NV.str 0 0), (NV.str 0 0), (NV.str 0 0), (NV.str 0 0), (NV.str 0 0), (NV.str 0 0), (NV.str 0 0), (NV.str 0 0), (NV.str 0 0), (NV.str 0 0), (NV.str 0 0), (NV.str 0 0), (NV.str 0 0), (NV.str 0 0), (NV.str 0 0), (NV.str 0 0), (NV.str 0 0), (NV.str 0 0), (NV.str 0 0), (NV.str 0 0), (NV.str 0 0), (NV.str 0 0), (NV.str 0 0), (NV.str 0 0), (NV.str 0 0), (NV.str 0 0), (NV.str 0 0), (NV.str 0 0), (NV.str 0 0), (NV.str 0 0), (NV.str 0 0), (NV.str 0 0), (NV.str 0 0), (NV.str 0 0), (NV.str 0 0), (NV.str 0 0), (NV.str 0 0), (NV.str 0 0), (NV.str 0 0), (NV.str 0 0), (NV.str 0 0), (NV.str 0 0)]) h) fun v0 h1 =>
 bK (bldO [(0, 1), (1, 1), (2, 1), (3, 1), (4, 1), (5, 1), (6, 1), (7, 1), (8, 1), (9, 1), (10, 1), (11, 1), (12, 1), (13, 1), (14, 1), (15, 1), (16, 1), (17, 1), (18, 1), (19, 1), (20, 1), (21, 1), (22, 1), (23, 1), (24, 1), (25, 1), (26, 1), (27, 1), (28, 1), (29, 1), (30, 1), (31, 1), (32, 1), (33, 1), (34, 1), (35, 1), (36, 1), (37, 1), (38, 1), (39, 1), (40, 1), (41, 1), (42, 1), (43, 1), (44, 1), (45, 1), (46, 1), (47, 1), (48, 1), (49, 1), (50, 1), (51, 1), (52, 1), (53, 1), (54, 1), (55, 1), (56, 1), (57, 1), (58, 1), (59, 1), (60, 1), (61, 1), (62, 1), (63, 1), (64, 1), (65, 1), (66, 1), (67, 1), (68, 1), (69, 1), (70, 1), (71, 1), (72, 1), (73, 1), (74, 1), (75, 1), (76, 1), (77, 1), (78, 1), (79, 1), (80, 1), (81, 1), (82, 1), (83, 1), (84, 1), (85, 1), (86, 1), (87, 1), (88, 1), (89, 1), (90, 1), (91, 1), (92, 1), (93, 1), (94, 1), (95, 1), (96, 1), (97, 1), (98, 1), (99, 1), (100, 1), (101, 1), (102, 1), (103, 1), (104, 1), (105, 1), (106, 1), (107, 1), (108, 1), (109, 1), (110, 1), (111, 1), (112, 1), (113, 1), (114, 1), (115, 1), (116, 1), (117, 1), (118, 1), (119, 1), (120, 1), (121, 1), (122, 1), (123, 1), (124, 1), (125, 1), (126, 1), (127, 1), (128, 1), (129, 1), (130, 1), (131, 1), (132, 1), (133, 1), (134, 1), (135, 1), (136, 1), (137, 1), (138, 1), (139, 1), (140, 1), (141, 1), (142, 1), (143, 1), (144, 1), (145, 1), (146, 1), (147, 1), (148, 1), (149, 1), (150, 1), (151, 1), (152, 1), (153, 1), (154, 1), (155, 1), (156, 1), (157, 1), (158, 1), (159, 1), (160, 1), (161, 1), (162, 1), (163, 1), (164, 1), (165, 1), (166, 1), (167, 1), (168, 1), (169, 1), (170, 1), (171, 1), (172, 1), (173, 1), (174, 1), (175, 1), (176, 1), (177, 1), (178, 1), (179, 1), (180, 1), (181, 1), (182, 1), (183, 1), (184, 1), (185, 1), (186, 1), (187, 1), (188, 1), (189, 1), (190, 1), (191, 1), (192, 1), (193, 1), (194, 1), (195, 1), (196, 1), (197, 1), (198, 1), (199, 1), (200, 1), (201, 1), (202, 1), (203, 1), (204, 1), (205, 1), (206, 1), (207, 1), (208, 1), (209, 1), (210, 1)] [(NV.str 0 0), (NV.str 0 0), (NV.str 0 0), (NV.str 0 0), (NV.str 0 0), (NV.str 0 0), (NV.str 0 0), (NV.str 0 0), (NV.str 0 0), (NV.str 0 0), (NV.str 0 0), (NV.str 0 0), (NV.str 0 0), (NV.str 0 0), (NV.str 0 0), (NV.str 0 0), (NV.str 0 0), (NV.str 0 0), (NV.str 0 0), (NV.str 0 0), (NV.str 0 0), (NV.str 0 0), (NV.str 0 0), (NV.str 0 0), (NV.str 0 0), (NV.str 0 0), (NV.str 0 0), (NV.str 0 0), (NV.str 0 0), (NV.str 0 0), (NV.str 0 0), (NV.str 0 0), (NV.str 0 0), (NV.str 0 0), (NV.str 0 0), (NV.str 0 0), (NV.str 0 0), (NV.str 0 0), (NV.str 0 0), (NV.str 0 0), (NV.str 0 0), (NV.str 0 0), (NV.str 0 0), (NV.str 0 0), (NV.str 0 0), (NV.str 0 0), (NV.str 0 0), (NV.str 0 0), (NV.str 0 0), (NV.str 0 0), (NV.str 0 0), (NV.str 0 0), (NV.str 0 0), (NV.str 0 0), (NV.str 0 0), (NV.str 0 0), (NV.str 0 0), (NV.str 0 0), (NV.str 0 0), (NV.str 0 0), (NV.str 0 0), (NV.str 0 0), (NV.str 0 0), (NV.str 0 0), (NV.str 0 0), (NV.str 0 0), (NV.str 0 0), (NV.str 0 0), (NV.str 0 0), (NV.str 0 0), (NV.str 0 0), (NV.str 0 0), (NV.str 0 0), (NV.str 0 0), (NV.str 0 0), (NV.str 0 0), (NV.str 0 0), (NV.str 0 0), (NV.str 0 0), (NV.str 0 0), (NV.str 0 0), (NV.str 0 0), (NV.str 0 0), (NV.str 0 0), (NV.str 0 0), (NV.str 0 0), (NV.str 0 0), (NV.str 0 0), (NV.str 0 0), (NV.str 0 0), (NV.str 0 0), (NV.str 0 0), (NV.str 0 0), (NV.str 0 0), (NV.str 0 0), (NV.str 0 0), (NV.str 0 0), (NV.str 0 0), (NV.str 0 0), (NV.str 0 0), (NV.str 0 0), (NV.str 0 0), (NV.str 0 0), (NV.str 0 0), (NV.str 0 0), (NV.str 0 0), (NV.str 0 0), (NV.str 0 0), (NV.str 0 0), (NV.str 0 0), (NV.str 0 0), (NV.str 0 0), (NV.str 0 0), (NV.str 0 0), (NV.str 0 0), (NV.str 0 0), (NV.str 0 0), (NV.str 0 0), (NV.str 0 0), (NV.str 0 0), (NV.str 0 0), (NV.str 0 0), (NV.str 0 0), (NV.str 0 0), (NV.str 0 0), (NV.str 0 0), (NV.str 0 0), (NV.str 0 0), (NV.str 0 0), (NV.str 0 0), (NV.str 0 0), (NV.str 0 0), (NV.str 0 0), (NV.str 0 0), (NV.str 0 0), (NV.str 0 0), (NV.str 0 0), (NV.str 0 0), (NV.str 0 0), (NV.str 0 0), (NV.str 0 0), (NV.str 0 0), (NV.str 0 0), (NV.str 0 0), (NV.str 0 0), (NV.str 0 0), (NV.str 0 0), (NV.str 0 0), (NV.str 0 0), (NV.str 0 0), (NV.str 0 0), (NV.str 0 0), (NV.str 0 0), (NV.str 0 0), (NV.str 0 0), (NV.str 0 0), (NV.str 0 0), (NV.str 0 0), (NV.str 0 0), (NV.str 0 0), (NV.str 0 0), (NV.str 0 0), (NV.str 0 0), (NV.str 0 0), (NV.str 0 0), (NV.str 0 0), (NV.str 0 0), (NV.str 0 0), (NV.str 0 0), (NV.str 0 0), (NV.str 0 0), (NV.str 0 0), (NV.str 0 0), (NV.str 0 0), (NV.str 0 0), (NV.str 0 0), (NV.str 0 0), (NV.str 0 0), (NV.str 0 0), (NV.str 0 0), (NV.str 0 0), (NV.str 0 0), (NV.str 0 0), (NV.str 0 0), (NV.str 0 0), (NV.str 0 0), (NV.str 0 0), (NV.str 0 0), (NV.str 0 0), (NV.str 0 0), (NV.str 0 0), (NV.str 0 0), (NV.str 0 0), (NV.str 0 0), (NV.str 0 0), (NV.str 0 0), (NV.str 0 0), (NV.str 0 0), (NV.str 0 0), (NV.str 0 0), (NV.str 0 0), (NV.str 0 0), (NV.str 0 0), (NV.str 0 0), (NV.str 0 0), (NV.str 0 0), (NV.str 0 0), (NV.str 0 0), (NV.str 0 0), (NV.str 0 0), (NV.str 0 0)] [(NV.str 15 327767552172945331183350251170983541), (NV.str 7 17486839630819182), (NV.str 9 1164464547572376104034), (NV.str 8 4548689639039266668), (NV.str 6 69407495710313), (NV.str 0 0), (NV.str 0 0), (NV.str 0 0), (NV.str 0 0), (NV.str 0 0), (NV.str 0 0), (NV.str 0 0), (NV.str 6 69407512490594), (NV.str 9 1164464829025977594466), (NV.str 12 19536482683267168639882588770), (NV.str 10 298102852124297305286002), (NV.str 8 4548692937506840931), (NV.str 17 21480600261876078678271969189338205151587), (NV.str 0 0), (NV.str 0 0), (NV.str 0 0), (NV.str 0 0), (NV.str 0 0), (NV.str 0 0), (NV.str 0 0), (NV.str 0 0), (NV.str 8 4548688539527639652), (NV.str 10 298102852130829681583475), (NV.str 10 298103284476393909151091), (NV.str 0 0), (NV.str 0 0), (NV.str 0 0), (NV.str 13 5001344402895871739539482701676), (NV.str 13 5001344402895875117239203229548), (NV.str 13 5001344402619174237608536665964), (NV.str 14 1280344476626352986667176279632999), (NV.str 14 1280344476626353851358304734768231), (NV.str 13 5001346820747510968767951823220), (NV.str 13 5001346820747514346467672351092), (NV.str 0 0), (NV.str 15 546457008460428049428634524118561641), (NV.str 15 562033899036032532314226013106353769), (NV.str 15 530880117884823566543043035130901350), (NV.str 15 520495524167753911285982042472592998), (NV.str 18 9168027265654428855846305424485748109882217), (NV.str 18 9168027265654428858264157063715006459294569), (NV.str 19 2347014980007533787096643803363673714847789929), (NV.str 19 2347014980007533787715613823006363852297352041), (NV.str 18 9429364123449709595786177122993346096412265), (NV.str 18 9429364123449709598204028762222604445824617), (NV.str 19 2413917215603125656521250958181618799365863017), (NV.str 19 2413917215603125657140220977824308936815425129), (NV.str 19 2413917215603125656521232105609175468204111465), (NV.str 19 2413917215603125657140202125251865605653673577), (NV.str 16 82959459112035195726565278189186331497), (NV.str 16 82975036002610800209450869678174123625), (NV.str 16 82943882221459591243679686700198671206), (NV.str 16 82933497627742521588422625707540362854), (NV.str 17 21237621532681009893254626581142469489513), (NV.str 18 5436831112366338530009530115527837092033385), (NV.str 17 21241609216668364640873338002323310655081), (NV.str 18 5437851959467101345399920239350132396799593), (NV.str 18 5437851959467101340573661693857354988402281), (NV.str 17 35812227813666953304285268971732295574893), (NV.str 18 9168027265674711270362288350078981819426157), (NV.str 15 546451230376424881116632515876107113), (NV.str 15 562028121261514373823569073588680297), (NV.str 15 530874340419790417873731164338008934), (NV.str 15 520489747012205772438015240404481638), (NV.str 13 8338272223821249852648853746537), (NV.str 13 8338272568259982785710304408425), (NV.str 13 8338272568259982772554819580777), (NV.str 15 546457031033486231986814062760702825), (NV.str 15 546457031033486232130929250836558697), (NV.str 15 546457031033486231986814041285866345), (NV.str 15 546457031033486232130929229361722217), (NV.str 15 546457031033486231986797570086286185), (NV.str 15 546457031033486232130912758162142057), (NV.str 15 546457031033486231986797548611449705), (NV.str 15 546457031033486232130912736687305577), (NV.str 13 8338275850598708696536377996905), (NV.str 13 8338276209204541078206764299881), (NV.str 13 8338276209204541065051279472233), (NV.str 15 546457269646428804243862049567028841), (NV.str 15 546457269646428804387977237642884713), (NV.str 15 546457269646428804243862028092192361), (NV.str 15 546457269646428804387977216168048233), (NV.str 15 546457269646428804243845556892612201), (NV.str 15 546457269646428804387960744968468073), (NV.str 15 546457269646428804243845535417775721), (NV.str 15 546457269646428804387960723493631593), (NV.str 13 8338268927315424493213844648806), (NV.str 13 8338268927315424480058359821158), (NV.str 13 8338268927315424496542444303206), (NV.str 13 8338268927315424496520969466726), (NV.str 13 8338268927315424480049769886566), (NV.str 13 8338268927315424480028295050086), (NV.str 13 8338266500019052298216204940902), (NV.str 13 8338266500019052285060720113254), (NV.str 13 8338266500019052301544804595302), (NV.str 13 8338266500019052301523329758822), (NV.str 13 8338266500019052285052130178662), (NV.str 13 8338266500019052285030655342182), (NV.str 13 8338272223821249847142705673065), (NV.str 13 8338272223821249855938798695273), (NV.str 16 139892994165849425778193391510663345001), (NV.str 14 2134597777474555589481782695834473), (NV.str 14 2134597777474555588937601749496681), (NV.str 14 2134597777474555591752325746799465), (NV.str 16 139892999944572475388624959950019507049), (NV.str 16 139892999944572475425518448097438610281), (NV.str 16 139892999944572475388622422337312142185), (NV.str 16 139892999944572475425515910484731245417), (NV.str 14 2134597777474555589492777812112233), (NV.str 13 8338272568259982786852765709161), (NV.str 14 2134597777474555593434625781937001), (NV.str 14 2134597777474555591738057865442153), (NV.str 16 139892999944572475388623833015025546089), (NV.str 16 139892999944572475425517321162444649321), (NV.str 15 546457031033486231488316407217795945), (NV.str 15 546457031033486231920661971445363561), (NV.str 13 8575960338141501703810861774441), (NV.str 13 8575960338141501712606954796649), (NV.str 16 143880739000432984351916084533258368617), (NV.str 14 2195445938367317523632718148286057), (NV.str 14 2195445938367317523088537201948265), (NV.str 14 2195445938367317525903261199251049), (NV.str 16 143880745016840521505140665753246381673), (NV.str 16 143880745016840521542034153900665484905), (NV.str 16 143880745016840521505138128140539016809), (NV.str 16 143880745016840521542031616287958120041), (NV.str 14 2195445938367317523643713264563817), (NV.str 13 8575960696747334092129857451625), (NV.str 14 2195445938367317527585561234388585), (NV.str 14 2195445938367317525888993317893737), (NV.str 16 143880745016840521505139538818252420713), (NV.str 16 143880745016840521542033026965671523945), (NV.str 15 562034160222033286630955883011782249), (NV.str 15 562034160222033287063301447239349865), (NV.str 13 8100584109500996009146006516582), (NV.str 13 8100584109500992634800655446886), (NV.str 14 2073749532032254475913169852314470), (NV.str 15 530879880200257256949406374500119398), (NV.str 15 530879880200256980177883181878489958), (NV.str 17 34791743828804062027993364878159753917286), (NV.str 14 2073749532032255054920459805143910), (NV.str 14 2073749616581793655330847243514726), (NV.str 14 2073749616581793654786666297176934), (NV.str 14 2073749616581793657601390294479718), (NV.str 14 2073749616581793660402907267347302), (NV.str 14 2073749616581793658151146108367718), (NV.str 14 2073749616581793660957099782452070), (NV.str 19 2280111816527703826117084885104847133433017190), (NV.str 13 7942125366620828104700569335398), (NV.str 13 7942125366620824730355218265702), (NV.str 14 2033184093854931492375137900312166), (NV.str 15 520495128026862573163670194753910374), (NV.str 15 520495128026862296392147002132280934), (NV.str 17 34111168710368468031411358602303559186022), (NV.str 14 2033184093854932071382427853141606), (NV.str 14 2033184175986619032563556942100070), (NV.str 14 2033184175986619032019375995762278), (NV.str 14 2033184175986619034834099993065062), (NV.str 14 2033184175986619037635616965932646), (NV.str 14 2033184175986619035383855806953062), (NV.str 14 2033184175986619038189809481037414), (NV.str 19 2235509642907452746387254776002721426324076134), (NV.str 18 9168031253337075447834847025118878901613417), (NV.str 21 153813906827515972354792814719229369436366500410217), (NV.str 21 153813906827515982739386531788884626497359158850409), (NV.str 21 153813862226025575293705916427850816850036750693225), (NV.str 21 153813862226025585678299633497506073911029409133417), (NV.str 22 40498810532286534835525964147540208006911372259767913), (NV.str 22 40498810532286537493981955717371953814525492820457065), (NV.str 21 158198411739508681109403869217378218495334298170985), (NV.str 21 158198411739508691493997586287033475556326956611177), (NV.str 21 158198367138018284048316970925999665909004548453993), (NV.str 21 158198367138018294432910687995654922969997206894185), (NV.str 23 9793009668440644596010266686608289008633361334015243110), (NV.str 23 9793009668440645276575000528485215935382576197551666022), (NV.str 23 9793014052945556588729466738608667767750753136225170278), (NV.str 23 9793014052945557269294200580485594694499967999761593190), (NV.str 20 583708427007939603893703423388374749582376186726), (NV.str 23 9601447725832408488715473308214500360681018943742424678), (NV.str 23 9601447725832409169280207150091427287430233807278847590), (NV.str 23 9601452110337320481434673360214879119798410745952351846), (NV.str 23 9601452110337321161999407202091806046547625609488774758), (NV.str 21 146506398640861119376186043912817649648091369059942), (NV.str 25 660625699494170760817850004513665363006326852999658830181225), (NV.str 25 679456813138388239736077332846436991477294210794981659260521), (NV.str 25 641794681630924630881524425534872769831381839002147440702310), (NV.str 25 629240765503065226570841043735052050693457300431125779592806), (NV.str 19 2347014980007195555834240459701630947512431465), (NV.str 20 600835834881842062292884885388448385621157884777), (NV.str 19 2413918236449888188074238004643398327335138921), (NV.str 20 617963068531171376146324256893540834855737374313), (NV.str 20 617963068531171376145088734705894683839187662441), (NV.str 0 0), (NV.str 0 0), (NV.str 0 0), (NV.str 0 0), (NV.str 0 0), (NV.str 0 0), (NV.str 0 0), (NV.str 0 0), (NV.str 0 0), (NV.str 0 0), (NV.str 0 0), (NV.str 13 5001343272701261720108883404146), (NV.str 15 327767552181408163343023129200321906), (NV.str 13 8734324878964745910403536938354)]) fun v2 =>
 mK (stM 211 v0 v2 h1) fun v3 h4 =>
 bK (ldB 211 true h4 v0) fun v5 =>
 retC v5 h4)
theorem e220 : ikB Tryz.prog 9 Tryz.f220 = S220 := by kernel_rfl
theorem k220 [Sig] (w0 : World) : SOK cW w0 220 S220 := okW Tryz.func220 (by kernel_rfl) e220
noncomputable def S224 (call : CallF) (N : Nat) (l : List NV) (h : H) : R :=
 uc l fun v0 l1 => uc l1 fun v2 l3 => un l3 (
 bK (lenStr v2) fun v4 =>
 bK (eqI v4 (NV.int .i64 (.ofNat 0))) fun v5 =>
 jK (fun v6 h7 =>
 jK (fun v9 h10 =>
 jK (fun v12 h13 =>
 bK (pickO v5 (NV.bool true) v12) fun v15 =>
 condK v15 (
 retC (NV.int .i64 (.ofNat 0)) h13) (
 bK (eqI v4 (NV.int .i64 (.ofNat 1))) fun v16 =>
 condK v16 (
 bK (ixStr v2 (NV.int .i64 (.ofNat 0))) fun v17 =>
 mK (calM call 252 [v0, v17] h13) fun v18 h19 =>
 retC v18 h19) (
 bK (lenStr v0) fun v20 =>
 bK (geI v4 v20) fun v21 =>
 condK v21 (
 retC (NV.int .i64 (.negSucc 0)) h13) (
 bK (ldO 1 false h13 (NV.ptr (.o (.o .h)) 0)) fun v22 =>
 bK (leI v4 v22) fun v23 =>
 jK (fun v24 h25 =>
 jK (fun v27 h28 =>
 jK (fun v30 h31 =>
 bK (pickO v23 v30 (NV.bool false)) fun v33 =>
 condK v33 (
 mK (calM call 253 [v0, v2] h31) fun v34 h35 =>
 retC v34 h35) (
 bK (ixStr v2 (NV.int .i64 (.ofNat 0))) fun v36 =>
 bK (ixStr v2 (NV.int .i64 (.ofNat 1))) fun v37 =>
 bK (lenStr v0) fun v38 =>
 bK (subI v38 v4) fun v39 =>
 bK (addI v39 (NV.int .i64 (.ofNat 1))) fun v40 =>
 joinC 0 (fun h41 =>
 retC (NV.int .i64 (.negSucc 0)) h41) fun J42 =>
 loopC N 8 (fun L52 v43 v44 v45 v46 v47 v48 v49 v50 h51 =>
 bK (ltI v48 v49) fun v53 =>
 condK v53 (
 bK (ixStr v43 v48) fun v54 =>
 bK (neI v54 v46) fun v55 =>
 joinC 8 (fun v56 v57 v58 v59 v60 v61 v62 v63 h64 =>
 bK (addI v61 (NV.int .i64 (.ofNat 1))) fun v66 =>
 bK (ixStr v56 v66) fun v67 =>
 bK (eqI v67 v60) fun v68 =>
 jK (fun v69 h70 =>
 jK (fun v72 h73 =>
 jK (fun v75 h76 =>
 jK (fun v78 h79 =>
 jK (fun v81 h82 =>
 jK (fun v84 h85 =>
 jK (fun v87 h88 =>
 jK (fun v90 h91 =>
 bK (pickO v68 v90 (NV.bool false)) fun v93 =>
 condK v93 (
 retC v61 h91) (
 bK (addI v61 (NV.int .i64 (.ofNat 1))) fun v94 =>
 bK (addI v63 (NV.int .i64 (.ofNat 1))) fun v95 =>
 bK (ldO 1 false h91 (NV.ptr (.o (.o .h)) 0)) fun v96 =>
 bK (leI v58 v96) fun v97 =>
 jK (fun v98 h99 =>
 jK (fun v101 h102 =>
 jK (fun v104 h105 =>
 jK (fun v107 h108 =>
 bK (pickO v97 v107 (NV.bool false)) fun v110 =>
 condK v110 (
 bK (slStr v56 (some v94) none) fun v111 =>
 mK (calM call 253 [v111, v57] h108) fun v112 h113 =>
 bK (geI v112 (NV.int .i64 (.ofNat 0))) fun v114 =>
 condK v114 (
 bK (addI v112 v94) fun v115 =>
 retC v115 h113) (
 retC (NV.int .i64 (.negSucc 0)) h113)) (
 bK (ldO 1 false h108 (NV.ptr (.o (.o .h)) 0)) fun v116 =>
 bK (gtI v58 v116) fun v117 =>
 jK (fun v118 h119 =>
 jK (fun v121 h122 =>
 jK (fun v124 h125 =>
 jK (fun v127 h128 =>
 jK (fun v130 h131 =>
 bK (pickO v117 v130 (NV.bool false)) fun v133 =>
 jK (fun v134 h135 =>
 jK (fun v137 h138 =>
 jK (fun v140 h141 =>
 bK (pickO v133 v140 (NV.bool false)) fun v143 =>
 condK v143 (
 bK (slStr v56 (some v94) none) fun v144 =>
 mK (calM call 255 [v144, v57] h141) fun v145 h146 =>
 bK (ltI v145 (NV.int .i64 (.ofNat 0))) fun v147 =>
 condK v147 (
 retC (NV.int .i64 (.negSucc 0)) h146) (
 bK (addI v94 v145) fun v148 =>
 retC v148 h146)) (
 L52 v56 v57 v58 v59 v60 v94 v62 v95 h141)) fun J142 => gK v133 true (
 bK (ltI v134 v137) fun v149 =>
 J142 v149 h138) (J142 (NV.tuple []) h138)) fun J139 => gK v133 true (
 J139 v62 h135) (J139 (NV.tuple []) h135)) fun J136 => gK v133 true (
 J136 v94 h131) (J136 (NV.tuple []) h131)) fun J132 => gK v117 true (
 bK (geI v118 v127) fun v150 =>
 J132 v150 h128) (J132 (NV.tuple []) h128)) fun J129 => gK v117 true (
 bK (addI (NV.int .i64 (.ofNat 4)) v124) fun v151 =>
 J129 v151 h125) (J129 (NV.tuple []) h125)) fun J126 => gK v117 true (
 bK (binO .shr v121 (NV.int .u64 (.ofNat 4))) fun v152 =>
 J126 v152 h122) (J126 (NV.tuple []) h122)) fun J123 => gK v117 true (
 J123 v94 h119) (J123 (NV.tuple []) h119)) fun J120 => gK v117 true (
 J120 v95 h108) (J120 (NV.tuple []) h108))) fun J109 => gK v97 true (
 bK (gtI v98 v104) fun v153 =>
 J109 v153 h105) (J109 (NV.tuple []) h105)) fun J106 => gK v97 true (
 mK (calM call 254 [v101] h102) fun v154 h155 =>
 J106 v154 h155) (J106 (NV.tuple []) h102)) fun J103 => gK v97 true (
 J103 v94 h99) (J103 (NV.tuple []) h99)) fun J100 => gK v97 true (
 J100 v95 h91) (J100 (NV.tuple []) h91))) fun J92 => gK v68 true (
 bK (binO .eql v84 v87) fun v156 =>
 J92 v156 h88) (J92 (NV.tuple []) h88)) fun J89 => gK v68 true (
 J89 v57 h85) (J89 (NV.tuple []) h85)) fun J86 => gK v68 true (
 bK (slStr v69 (some v72) (some v81)) fun v157 =>
 J86 v157 h82) (J86 (NV.tuple []) h82)) fun J83 => gK v68 true (
 bK (addI v75 v78) fun v158 =>
 J83 v158 h79) (J83 (NV.tuple []) h79)) fun J80 => gK v68 true (
 J80 v58 h76) (J80 (NV.tuple []) h76)) fun J77 => gK v68 true (
 J77 v61 h73) (J77 (NV.tuple []) h73)) fun J74 => gK v68 true (
 J74 v61 h70) (J74 (NV.tuple []) h70)) fun J71 => gK v68 true (
 J71 v56 h64) (J71 (NV.tuple []) h64)) fun J65 =>
 condK v55 (
 bK (addI v48 (NV.int .i64 (.ofNat 1))) fun v159 =>
 bK (slStr v43 (some v159) (some v49)) fun v160 =>
 mK (calM call 252 [v160, v46] h51) fun v161 h162 =>
 bK (ltI v161 (NV.int .i64 (.ofNat 0))) fun v163 =>
 condK v163 (
 retC (NV.int .i64 (.negSucc 0)) h162) (
 bK (addI v161 (NV.int .i64 (.ofNat 1))) fun v164 =>
 bK (addI v48 v164) fun v165 =>
 J65 v43 v44 v45 v46 v47 v165 v49 v50 h162)) (
 J65 v43 v44 v45 v46 v47 v48 v49 v50 h51)) (
 J42 h51)) v0 v2 v4 v36 v37 (NV.int .i64 (.ofNat 0)) v40 (NV.int .i64 (.ofNat 0)) h31)) fun J32 => gK v23 true (
 bK (leI v27 (NV.int .i64 (.ofNat 64))) fun v166 =>
 J32 v166 h28) (J32 (NV.tuple []) h28)) fun J29 => gK v23 true (
 bK (lenStr v24) fun v167 =>
 J29 v167 h25) (J29 (NV.tuple []) h25)) fun J26 => gK v23 true (
 J26 v0 h13) (J26 (NV.tuple []) h13))))) fun J14 => gK v5 false (
 bK (binO .eql v6 v9) fun v168 =>
 J14 v168 h10) (J14 (NV.tuple []) h10)) fun J11 => gK v5 false (
 J11 v0 h7) (J11 (NV.tuple []) h7)) fun J8 => gK v5 false (
 J8 v2 h) (J8 (NV.tuple []) h))
theorem e224 : ikB Tryz.prog 9 Tryz.f224 = S224 := by kernel_rfl
theorem k224 [Sig] (w0 : World) : SOK cW w0 224 S224 := okW Tryz.func224 (by kernel_rfl) e224
noncomputable def S219 (call : CallF) (N : Nat) (l : List NV) (h : H) : R :=
 uc l fun v0 l1 => uc l1 fun v2 l3 => un l3 (
 bK (lenSl v0) fun v4 =>
 joinC 0 (fun h5 =>
 retC (NV.int .i64 (.negSucc 0)) h5) fun J6 =>
 loopC N 4 (fun L12 v7 v8 v9 v10 h11 =>
 bK (ltI v10 v9) fun v13 =>
 condK v13 (
 bK (ixS 9 v7 v10) fun v14 =>
 bK (ldO 9 true h11 v14) fun v15 =>
 mK (calV call v8 [v15] h11) fun v16 h17 =>
 condK v16 (
 retC v10 h17) (
 bK (addI v10 (NV.int .i64 (.ofNat 1))) fun v18 =>
 L12 v7 v8 v9 v18 h17)) (
 J6 h11)) v0 v2 v4 (NV.int .i64 (.ofNat 0)) h)
theorem e219 : ikB Tryz.prog 9 Tryz.f219 = S219 := by kernel_rfl
theorem k219 [Sig] (w0 : World) : SOK cW w0 219 S219 := okW Tryz.func219 (by kernel_rfl) e219
noncomputable def S252 (call : CallF) (N : Nat) (l : List NV) (h : H) : R :=
 uc l fun v0 l1 => uc l1 fun v2 l3 => un l3 (
 mK (calM call 303 [v0, v2] h) fun v4 h5 =>
 retC v4 h5)
theorem e252 : ikB Tryz.prog 9 Tryz.f252 = S252 := by kernel_rfl
theorem k252 [Sig] (w0 : World) : SOK cW w0 252 S252 := okW Tryz.func252 (by kernel_rfl) e252
end Go.Proofs.YtoikhmpgaihiaaaGreatDoor
