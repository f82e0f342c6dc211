/- A part of the proof: what the functions of the program answer, as plain lists and numbers. -/
import Derived.Test.YtclfnechcblmoaaDoorP9
namespace Go.Pm
open Go.Proofs
set_option linter.unusedVariables false
set_option maxRecDepth 100000
theorem Clone_byte_r_of {r : R3} {x0 : AV} {H : List AObj} (hh : (fun n => (
 (binA .eql (Go.TypeDesc.slice 5) (cmpT Tryd.prog) true x0 .nils).bind fun a1 =>
 condK a1
 (endB true true n .nils H [])
 (appK 1 1 (AV.emp none) x0 H fun a2 H2 E2 =>
 endB true true n a2 H2 (E2 ++ [])))) (List.length H) = some r) : EV C0 n_Clone_byte_r [x0] H = some r :=
 EV_of_fnK' (fn := Tryd.f51) (by kernel_rfl) (by kernel_rfl) (by kernel_rfl) hh
theorem tree_List_of {r : R3} {x0 : AV} {H : List AObj} (hh : (fun n => (
 newK x0 H fun a1 H1 E1 =>
 (loadA true 5 a1 H1).bind fun a2 =>
 callK (EV C) false n_tree_Check [a2] H1 fun a3 H3 E3 =>
 (binA .neq (Go.TypeDesc.interface #[("Error", 138)]) (cmpT Tryd.prog) true a3 .nili).bind fun a4 =>
 condK a4
 (endB false false n .nils H3 (E3 ++ (E1 ++ [])))
 (newK .nils H3 fun a5 H5 E5 =>
 newK .nilf H5 fun a6 H6 E6 =>
 stoK 1 a6 (.clo n_tree_List_1 [] [a6, a5]) H6 fun H7 E7 =>
 (loadA false 1 a6 H7).bind fun a8 =>
 (loadA true 5 a1 H7).bind fun a9 =>
 valK Tryd.prog (EV C) false a8 [a9] H7 fun a10 H10 E10 =>
 (loadA false 1 a5 H10).bind fun a11 =>
 endB false false n a11 H10 (E10 ++ (E7 ++ (E6 ++ (E5 ++ (E3 ++ (E1 ++ []))))))))) (List.length H) = some r) : EV C n_tree_List [x0] H = some r :=
 EV_of_fnK' (fn := Tryd.f45) (by kernel_rfl) (by kernel_rfl) (by kernel_rfl) hh
theorem tree_List_1_of {r : R3} {x0 x1 x2 : AV} {H : List AObj} (hh : (fun n => (
 newK x0 H fun a1 H1 E1 =>
 (offA a1 4).bind fun a2 =>
 (loadA false 1 a2 H1).bind fun a3 =>
 (lenV a3 H1).bind fun a4 =>
 (binA .eql (Go.TypeDesc.int Go.IntKind.i64) (cmpT Tryd.prog) true a4 (.int .i64 0)).bind fun a5 =>
 condK a5
 (endB false true n (.tup []) H1 (E1 ++ []))
 ((loadA false 1 x1 H1).bind fun a6 =>
 (offA a1 4).bind fun a7 =>
 (loadA false 1 a7 H1).bind fun a8 =>
 (ixA 5 a8 (.int .i64 0) H1).bind fun a9 =>
 (loadA true 5 a9 H1).bind fun a10 =>
 valK Tryd.prog (EV C) false a6 [a10] H1 fun a11 H11 E11 =>
 drawK (SwapOk Tryd.prog C.G (EV C) (C.hint 76) 3 (opsOf Tryd.f76 3) ⟨[x0, x1, x2, a1, a2, a3, a4, (.bool false), a6, a7, a8, a9, a10, a11, (.tup []), (.tup []), (.tup []), (.tup []), (.tup []), (.tup []), (.tup []), (.tup []), (.tup []), (.tup []), (.tup []), (.tup [])], H11, (E11 ++ (E1 ++ []))⟩)
 ((loadA false 1 x2 H11).bind fun a12 =>
 (loadA true 5 a1 H11).bind fun a13 =>
 (lenV a12 H11).bind fun a14 =>
 litK 5 1 (.agg [(.int .i64 0), .nils, .nils, .nils, .nils]) [(0, (.agg [(.int .i64 0), .nils, .nils, .nils, .nils]))] H11 fun a15 H15 E15 =>
 appK 5 104 a12 a15 H15 fun a16 H16 E16 =>
 (ixA 5 a16 a14 H16).bind fun a17 =>
 stoK 5 a17 a13 H16 fun H18 E18 =>
 stoK 1 x2 a16 H18 fun H19 E19 =>
 (loadA false 1 x1 H19).bind fun a20 =>
 (offA a1 4).bind fun a21 =>
 (loadA false 1 a21 H19).bind fun a22 =>
 (ixA 5 a22 (.int .i64 1) H19).bind fun a23 =>
 (loadA true 5 a23 H19).bind fun a24 =>
 valK Tryd.prog (EV C) false a20 [a24] H19 fun a25 H25 E25 =>
 endB false true n (.tup []) H25 (E25 ++ (E19 ++ (E18 ++ (E16 ++ (E15 ++ (E11 ++ (E1 ++ []))))))))))) (List.length H) = some r) : EV C n_tree_List_1 [x0, x1, x2] H = some r :=
 EV_of_fnK' (fn := Tryd.f76) (by kernel_rfl) (by kernel_rfl) (by kernel_rfl) hh
theorem scan_In_of {r : R3} {x0 x1 : AV} {H : List AObj} (hh : (fun n => (
 newK x0 H fun a1 H1 E1 =>
 (offA a1 0).bind fun a2 =>
 (loadA false 1 a2 H1).bind fun a3 =>
 callK (EV C) false n_bytes_Compare [x1, a3] H1 fun a4 H4 E4 =>
 (binA .geq (Go.TypeDesc.int Go.IntKind.i64) (cmpT Tryd.prog) true a4 (.int .i64 0)).bind fun a5 =>
 splitK a5
 ((offA a1 2).bind fun a6 =>
 (loadA false 1 a6 H4).bind fun a7 =>
 splitK a7
 (endB false false n (.bool true) H4 (E4 ++ (E1 ++ [])))
 ((offA a1 1).bind fun a8 =>
 (loadA false 1 a8 H4).bind fun a9 =>
 callK (EV C) false n_bytes_Compare [x1, a9] H4 fun a10 H10 E10 =>
 (binA .lss (Go.TypeDesc.int Go.IntKind.i64) (cmpT Tryd.prog) true a10 (.int .i64 0)).bind fun a11 =>
 endB false false n a11 H10 (E10 ++ (E4 ++ (E1 ++ [])))))
 (endB false false n (.bool false) H4 (E4 ++ (E1 ++ []))))) (List.length H) = some r) : EV C n_scan_In [x0, x1] H = some r :=
 EV_of_fnK' (fn := Tryd.f25) (by kernel_rfl) (by kernel_rfl) (by kernel_rfl) hh
theorem scan_next_of {r : R3} {x0 : AV} {H : List AObj} (hh : (fun n => (
 callK (EV C) true n_Clone_byte_r [x0] H fun a1 H1 E1 =>
 litK 1 1 (.int .u8 0) [(0, (.int .u8 0))] H1 fun a2 H2 E2 =>
 appK 1 1 a1 a2 H2 fun a3 H3 E3 =>
 endB false false n a3 H3 (E3 ++ (E2 ++ (E1 ++ []))))) (List.length H) = some r) : EV C n_scan_next [x0] H = some r :=
 EV_of_fnK' (fn := Tryd.f69) (by kernel_rfl) (by kernel_rfl) (by kernel_rfl) hh
theorem scan_Empty_of {r : R3} {x0 x1 x2 x3 x4 : AV} {H : List AObj} (hh : (fun n => (
 newK x0 H fun a1 H1 E1 =>
 (offA a1 0).bind fun a2 =>
 (loadA false 1 a2 H1).bind fun a3 =>
 splitK x3
 (callK (EV C) false n_scan_next [x1] H1 fun a4 H4 E4 =>
 callK (EV C) false n_bytes_Compare [a4, a3] H4 fun a5 H5 E5 =>
 (binA .gtr (Go.TypeDesc.int Go.IntKind.i64) (cmpT Tryd.prog) true a5 (.int .i64 0)).bind fun a6 =>
 condK a6
 (callK (EV C) false n_scan_next [x1] H5 fun a7 H7 E7 =>
 (offA a1 2).bind fun a8 =>
 (loadA false 1 a8 H7).bind fun a9 =>
 (unA .not a9).bind fun a10 =>
 splitK a10
 ((offA a1 1).bind fun a11 =>
 (loadA false 1 a11 H7).bind fun a12 =>
 callK (EV C) false n_bytes_Compare [a7, a12] H7 fun a13 H13 E13 =>
 (binA .geq (Go.TypeDesc.int Go.IntKind.i64) (cmpT Tryd.prog) true a13 (.int .i64 0)).bind fun a14 =>
 splitK a14
 (endB false false n (.bool true) H13 (E13 ++ (E7 ++ (E5 ++ (E4 ++ (E1 ++ []))))))
 (splitK x4
 (callK (EV C) false n_bytes_Compare [a7, x2] H13 fun a15 H15 E15 =>
 (binA .geq (Go.TypeDesc.int Go.IntKind.i64) (cmpT Tryd.prog) true a15 (.int .i64 0)).bind fun a16 =>
 endB false false n a16 H15 (E15 ++ (E13 ++ (E7 ++ (E5 ++ (E4 ++ (E1 ++ [])))))))
 (endB false false n (.bool false) H13 (E13 ++ (E7 ++ (E5 ++ (E4 ++ (E1 ++ []))))))))
 (splitK x4
 (callK (EV C) false n_bytes_Compare [a7, x2] H7 fun a17 H17 E17 =>
 (binA .geq (Go.TypeDesc.int Go.IntKind.i64) (cmpT Tryd.prog) true a17 (.int .i64 0)).bind fun a18 =>
 endB false false n a18 H17 (E17 ++ (E7 ++ (E5 ++ (E4 ++ (E1 ++ []))))))
 (endB false false n (.bool false) H7 (E7 ++ (E5 ++ (E4 ++ (E1 ++ [])))))))
 ((offA a1 2).bind fun a19 =>
 (loadA false 1 a19 H5).bind fun a20 =>
 (unA .not a20).bind fun a21 =>
 splitK a21
 ((offA a1 1).bind fun a22 =>
 (loadA false 1 a22 H5).bind fun a23 =>
 callK (EV C) false n_bytes_Compare [a3, a23] H5 fun a24 H24 E24 =>
 (binA .geq (Go.TypeDesc.int Go.IntKind.i64) (cmpT Tryd.prog) true a24 (.int .i64 0)).bind fun a25 =>
 splitK a25
 (endB false false n (.bool true) H24 (E24 ++ (E5 ++ (E4 ++ (E1 ++ [])))))
 (splitK x4
 (callK (EV C) false n_bytes_Compare [a3, x2] H24 fun a26 H26 E26 =>
 (binA .geq (Go.TypeDesc.int Go.IntKind.i64) (cmpT Tryd.prog) true a26 (.int .i64 0)).bind fun a27 =>
 endB false false n a27 H26 (E26 ++ (E24 ++ (E5 ++ (E4 ++ (E1 ++ []))))))
 (endB false false n (.bool false) H24 (E24 ++ (E5 ++ (E4 ++ (E1 ++ [])))))))
 (splitK x4
 (callK (EV C) false n_bytes_Compare [a3, x2] H5 fun a28 H28 E28 =>
 (binA .geq (Go.TypeDesc.int Go.IntKind.i64) (cmpT Tryd.prog) true a28 (.int .i64 0)).bind fun a29 =>
 endB false false n a29 H28 (E28 ++ (E5 ++ (E4 ++ (E1 ++ [])))))
 (endB false false n (.bool false) H5 (E5 ++ (E4 ++ (E1 ++ [])))))))
 ((offA a1 2).bind fun a30 =>
 (loadA false 1 a30 H1).bind fun a31 =>
 (unA .not a31).bind fun a32 =>
 splitK a32
 ((offA a1 1).bind fun a33 =>
 (loadA false 1 a33 H1).bind fun a34 =>
 callK (EV C) false n_bytes_Compare [a3, a34] H1 fun a35 H35 E35 =>
 (binA .geq (Go.TypeDesc.int Go.IntKind.i64) (cmpT Tryd.prog) true a35 (.int .i64 0)).bind fun a36 =>
 splitK a36
 (endB false false n (.bool true) H35 (E35 ++ (E1 ++ [])))
 (splitK x4
 (callK (EV C) false n_bytes_Compare [a3, x2] H35 fun a37 H37 E37 =>
 (binA .geq (Go.TypeDesc.int Go.IntKind.i64) (cmpT Tryd.prog) true a37 (.int .i64 0)).bind fun a38 =>
 endB false false n a38 H37 (E37 ++ (E35 ++ (E1 ++ []))))
 (endB false false n (.bool false) H35 (E35 ++ (E1 ++ [])))))
 (splitK x4
 (callK (EV C) false n_bytes_Compare [a3, x2] H1 fun a39 H39 E39 =>
 (binA .geq (Go.TypeDesc.int Go.IntKind.i64) (cmpT Tryd.prog) true a39 (.int .i64 0)).bind fun a40 =>
 endB false false n a40 H39 (E39 ++ (E1 ++ [])))
 (endB false false n (.bool false) H1 (E1 ++ [])))))) (List.length H) = some r) : EV C n_scan_Empty [x0, x1, x2, x3, x4] H = some r :=
 EV_of_fnK' (fn := Tryd.f78) (by kernel_rfl) (by kernel_rfl) (by kernel_rfl) hh
theorem check_open_of {r : R3} {x0 x1 x2 x3 x4 x5 : AV} {H : List AObj} (hh : (fun n => (
 newK x0 H fun a1 H1 E1 =>
 newK x1 H1 fun a2 H2 E2 =>
 (offA a2 0).bind fun a3 =>
 (loadA false 1 a3 H2).bind fun a4 =>
 (binA .eql (Go.TypeDesc.int Go.IntKind.i64) (cmpT Tryd.prog) true a4 (.int .i64 3)).bind fun a5 =>
 condK a5
 ((loadA true 3 a1 H2).bind fun a6 =>
 callK (EV C) false n_scan_Empty [a6, x2, x3, x4, x5] H2 fun a7 H7 E7 =>
 (unA .not a7).bind fun a8 =>
 endB false false n a8 H7 (E7 ++ (E2 ++ (E1 ++ []))))
 ((binA .eql (Go.TypeDesc.int Go.IntKind.i64) (cmpT Tryd.prog) true a4 (.int .i64 0)).bind fun a9 =>
 condK a9
 (endB false false n (.bool false) H2 (E2 ++ (E1 ++ [])))
 ((binA .eql (Go.TypeDesc.int Go.IntKind.i64) (cmpT Tryd.prog) true a4 (.int .i64 2)).bind fun a10 =>
 condK a10
 ((loadA true 3 a1 H2).bind fun a11 =>
 (offA a2 1).bind fun a12 =>
 (loadA false 1 a12 H2).bind fun a13 =>
 callK (EV C) false n_scan_In [a11, a13] H2 fun a14 H14 E14 =>
 condK a14
 (endB false false n (.bool true) H14 (E14 ++ (E2 ++ (E1 ++ []))))
 ((loadA true 3 a1 H14).bind fun a15 =>
 (offA a2 4).bind fun a16 =>
 (loadA false 1 a16 H14).bind fun a17 =>
 (ixA 5 a17 (.int .i64 0) H14).bind fun a18 =>
 (loadA true 5 a18 H14).bind fun a19 =>
 (offA a2 1).bind fun a20 =>
 (loadA false 1 a20 H14).bind fun a21 =>
 (callD (EV C) n_check_open [a15, a19, x2, a21, x4, (.bool true)] H14).bind fun a22 =>
 splitK a22
 (endB false false n (.bool true) H14 (E14 ++ (E2 ++ (E1 ++ []))))
 ((loadA true 3 a1 H14).bind fun a23 =>
 (offA a2 4).bind fun a24 =>
 (loadA false 1 a24 H14).bind fun a25 =>
 (ixA 5 a25 (.int .i64 1) H14).bind fun a26 =>
 (loadA true 5 a26 H14).bind fun a27 =>
 (offA a2 1).bind fun a28 =>
 (loadA false 1 a28 H14).bind fun a29 =>
 (callD (EV C) n_check_open [a23, a27, a29, x3, (.bool true), x5] H14).bind fun a30 =>
 endB false false n a30 H14 (E14 ++ (E2 ++ (E1 ++ []))))))
 ((loadA true 3 a1 H2).bind fun a31 =>
 (offA a2 4).bind fun a32 =>
 (loadA false 1 a32 H2).bind fun a33 =>
 (ixA 5 a33 (.int .i64 0) H2).bind fun a34 =>
 (loadA true 5 a34 H2).bind fun a35 =>
 (offA a2 1).bind fun a36 =>
 (loadA false 1 a36 H2).bind fun a37 =>
 (callD (EV C) n_check_open [a31, a35, x2, a37, x4, (.bool true)] H2).bind fun a38 =>
 splitK a38
 (endB false false n (.bool true) H2 (E2 ++ (E1 ++ [])))
 ((loadA true 3 a1 H2).bind fun a39 =>
 (offA a2 4).bind fun a40 =>
 (loadA false 1 a40 H2).bind fun a41 =>
 (ixA 5 a41 (.int .i64 1) H2).bind fun a42 =>
 (loadA true 5 a42 H2).bind fun a43 =>
 (offA a2 1).bind fun a44 =>
 (loadA false 1 a44 H2).bind fun a45 =>
 (callD (EV C) n_check_open [a39, a43, a45, x3, (.bool true), x5] H2).bind fun a46 =>
 endB false false n a46 H2 (E2 ++ (E1 ++ [])))))))) (List.length H) = some r) : EV C n_check_open [x0, x1, x2, x3, x4, x5] H = some r :=
 EV_of_fnK' (fn := Tryd.f50) (by kernel_rfl) (by kernel_rfl) (by kernel_rfl) hh
noncomputable def check_Check_J10 (n : Nat) (t6 t7 t12 t13 : AV) (H : List AObj) (E : List Nat) : Option R3 :=
 loopK Tryd.prog C.G (EV C) (C.hint 19) Tryd.f19 (cAt (bodyOf Tryd.f19) [1, 1, 1, 1, 1, 0, 1, 0, 0]) (kAt Tryd.prog C.G (EV C) (C.hint 19) Tryd.f19 (bodyOf Tryd.f19) [1, 1, 1, 1, 1, 0, 1, 0] [] (endK Tryd.prog (C.hint 19) Tryd.f19 n))
 ⟨pat 99 [(6, t6), (7, t7), (12, t12), (13, t13)], H, E⟩
noncomputable def check_Check_J18 (n : Nat) (t6 t14 t72 t73 t74 : AV) (H : List AObj) (E : List Nat) : Option R3 :=
 loopK Tryd.prog C.G (EV C) (C.hint 19) Tryd.f19 (cAt (bodyOf Tryd.f19) [1, 1, 1, 1, 1, 1, 1, 1, 0, 1, 0, 0]) (kAt Tryd.prog C.G (EV C) (C.hint 19) Tryd.f19 (bodyOf Tryd.f19) [1, 1, 1, 1, 1, 1, 1, 1, 0, 1, 0] [] (endK Tryd.prog (C.hint 19) Tryd.f19 n))
 ⟨pat 99 [(6, t6), (14, t14), (72, t72), (73, t73), (74, t74)], H, E⟩
theorem check_Check_J10_of {r : R3} {n : Nat} {t6 t7 t12 t13 : AV} {H : List AObj} {E : List Nat} (hh : (
 (lenV t12 H).bind fun a1 =>
 (binA .lss (Go.TypeDesc.int Go.IntKind.i64) (cmpT Tryd.prog) false t13 a1).bind fun a2 =>
 condK a2
 ((binA .sub (Go.TypeDesc.int Go.IntKind.i64) (cmpT Tryd.prog) true t13 (.int .i64 1)).bind fun a3 =>
 (ixA 5 t12 a3 H).bind fun a4 =>
 (offA a4 1).bind fun a5 =>
 (loadA false 1 a5 H).bind fun a6 =>
 (ixA 5 t12 t13 H).bind fun a7 =>
 (offA a7 1).bind fun a8 =>
 (loadA false 1 a8 H).bind fun a9 =>
 (callD (EV C) n_bytes_Compare [a6, a9] H).bind fun a10 =>
 (binA .geq (Go.TypeDesc.int Go.IntKind.i64) (cmpT Tryd.prog) true a10 (.int .i64 0)).bind fun a11 =>
 condK a11
 (endB false false n (.tup [.nils, (.ifc t_api_Code (.int .i64 7))]) H E)
 ((binA .add (Go.TypeDesc.int Go.IntKind.i64) (cmpT Tryd.prog) true t13 (.int .i64 1)).bind fun a12 =>
 check_Check_J10 n t6 t7 t12 a12 H E))
 ((loadA true 3 t6 H).bind fun a13 =>
 (loadA true 5 t7 H).bind fun a14 =>
 callK (EV C) false n_check_open [a13, a14, .nils, .nils, (.bool false), (.bool false)] H fun a15 H15 E15 =>
 condK a15
 (endB false false n (.tup [.nils, (.ifc t_api_Code (.int .i64 8))]) H15 (E15 ++ E))
 ((lenV t12 (H15 ++ [.vrow])).bind fun a16 =>
 check_Check_J18 n t6 (.slc (List.length H15) 0 0 0) t12 a16 (.int .i64 0) (H15 ++ [.vrow]) (E15 ++ E)))) = some r) : check_Check_J10 n t6 t7 t12 t13 H E = some r :=
 loop_step' (by kernel_rfl) hh
theorem check_Check_J18_of {r : R3} {n : Nat} {t6 t14 t72 t73 t74 : AV} {H : List AObj} {E : List Nat} (hh : (
 (binA .lss (Go.TypeDesc.int Go.IntKind.i64) (cmpT Tryd.prog) false t74 t73).bind fun a1 =>
 condK a1
 ((ixA 5 t72 t74 H).bind fun a2 =>
 (loadA true 5 a2 H).bind fun a3 =>
 newK (.agg [(.int .i64 0), .nils, .nils, .nils, .nils]) H fun a4 H4 E4 =>
 stoK 5 a4 a3 H4 fun H5 E5 =>
 (offA a4 0).bind fun a6 =>
 (loadA false 1 a6 H5).bind fun a7 =>
 (binA .eql (Go.TypeDesc.int Go.IntKind.i64) (cmpT Tryd.prog) true a7 (.int .i64 1)).bind fun a8 =>
 splitK a8
 ((loadA true 3 t6 H5).bind fun a9 =>
 (offA a4 1).bind fun a10 =>
 (loadA false 1 a10 H5).bind fun a11 =>
 callK (EV C) false n_scan_In [a9, a11] H5 fun a12 H12 E12 =>
 condK a12
 ((offA a4 1).bind fun a13 =>
 (loadA false 1 a13 H12).bind fun a14 =>
 (callD (EV C) n_Clone_byte [a14] H12).bind fun a15 =>
 (offA a4 2).bind fun a16 =>
 (loadA false 1 a16 H12).bind fun a17 =>
 (callD (EV C) n_Clone_byte [a17] H12).bind fun a18 =>
 (fillB (AV.cells (.agg [.nils, .nils])) [(0, 1, a15), (1, 1, a18)]).bind fun c19 =>
 (litD 2 1 (.agg [.nils, .nils]) [(0, (.agg c19))] H12).bind fun a20 =>
 appK 2 48 t14 a20 H12 fun a21 H21 E21 =>
 (binA .add (Go.TypeDesc.int Go.IntKind.i64) (cmpT Tryd.prog) true t74 (.int .i64 1)).bind fun a22 =>
 condB (List.all (E21 ++ (E12 ++ (E5 ++ (E4 ++ [])))) (fun e => decide (List.length H ≤ e)) && (AV.bel (List.length H) t6 && (AV.bel (List.length H) a21 && (AV.bel (List.length H) t72 && (AV.bel (List.length H) t73 && (AV.bel (List.length H) a22 && true))))))
 (check_Check_J18 n t6 a21 t72 t73 a22 (List.take (List.length H) H21) E))
 ((binA .add (Go.TypeDesc.int Go.IntKind.i64) (cmpT Tryd.prog) true t74 (.int .i64 1)).bind fun a23 =>
 condB (List.all (E12 ++ (E5 ++ (E4 ++ []))) (fun e => decide (List.length H ≤ e)) && (AV.bel (List.length H) t6 && (AV.bel (List.length H) t14 && (AV.bel (List.length H) t72 && (AV.bel (List.length H) t73 && (AV.bel (List.length H) a23 && true))))))
 (check_Check_J18 n t6 t14 t72 t73 a23 (List.take (List.length H) H12) E)))
 ((binA .add (Go.TypeDesc.int Go.IntKind.i64) (cmpT Tryd.prog) true t74 (.int .i64 1)).bind fun a24 =>
 condB (List.all (E5 ++ (E4 ++ [])) (fun e => decide (List.length H ≤ e)) && (AV.bel (List.length H) t6 && (AV.bel (List.length H) t14 && (AV.bel (List.length H) t72 && (AV.bel (List.length H) t73 && (AV.bel (List.length H) a24 && true))))))
 (check_Check_J18 n t6 t14 t72 t73 a24 (List.take (List.length H) H5) E)))
 (endB false false n (.tup [t14, .nili]) H E)) = some r) : check_Check_J18 n t6 t14 t72 t73 t74 H E = some r :=
 loop_step' (by kernel_rfl) hh
theorem check_Check_of {r : R3} {x0 x1 x2 x3 : AV} {H : List AObj} (hh : (fun n => (
 newK x2 H fun a1 H1 E1 =>
 newK x3 H1 fun a2 H2 E2 =>
 (binA .lss (Go.TypeDesc.int Go.IntKind.i64) (cmpT Tryd.prog) true x0 (.int .i64 1)).bind fun a3 =>
 splitK a3
 (endB false false n (.tup [.nils, (.ifc t_api_Code (.int .i64 1))]) H2 (E2 ++ (E1 ++ [])))
 ((binA .gtr (Go.TypeDesc.int Go.IntKind.i64) (cmpT Tryd.prog) true x0 (.int .i64 32)).bind fun a4 =>
 splitK a4
 (endB false false n (.tup [.nils, (.ifc t_api_Code (.int .i64 1))]) H2 (E2 ++ (E1 ++ [])))
 ((lenV x1 H2).bind fun a5 =>
 (binA .neq (Go.TypeDesc.int Go.IntKind.i64) (cmpT Tryd.prog) false a5 x0).bind fun a6 =>
 condK a6
 (endB false false n (.tup [.nils, (.ifc t_api_Code (.int .i64 1))]) H2 (E2 ++ (E1 ++ [])))
 ((loadA true 5 a2 H2).bind fun a7 =>
 callK (EV C) false n_tree_Digest [x0, a7] H2 fun a8 H8 E8 =>
 (extA a8 0).bind fun a9 =>
 (extA a8 1).bind fun a10 =>
 (binA .neq (Go.TypeDesc.interface #[("Error", 138)]) (cmpT Tryd.prog) true a10 .nili).bind fun a11 =>
 condK a11
 (endB false false n (.tup [.nils, a10]) H8 (E8 ++ (E2 ++ (E1 ++ []))))
 (callK (EV C) false n_bytes_Equal [a9, x1] H8 fun a12 H12 E12 =>
 (unA .not a12).bind fun a13 =>
 condK a13
 (endB false false n (.tup [.nils, (.ifc t_api_Code (.int .i64 6))]) H12 (E12 ++ (E8 ++ (E2 ++ (E1 ++ [])))))
 ((loadA true 5 a2 H12).bind fun a14 =>
 callK (EV C) false n_tree_List [a14] H12 fun a15 H15 E15 =>
 check_Check_J10 n a1 a2 a15 (.int .i64 1) H15 (E15 ++ (E12 ++ (E8 ++ (E2 ++ (E1 ++ [])))))))))))) (List.length H) = some r) : EV C n_check_Check [x0, x1, x2, x3] H = some r :=
 EV_of_fnK' (fn := Tryd.f19) (by kernel_rfl) (by kernel_rfl) (by kernel_rfl) hh
end Go.Pm
