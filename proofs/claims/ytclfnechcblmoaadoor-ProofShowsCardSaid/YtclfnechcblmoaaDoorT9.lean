/- A part of the proof: what the functions of the program answer, as plain lists and numbers. -/
import Derived.Test.YtclfnechcblmoaaDoorT0
namespace Go.Pm
open Go.Proofs
set_option linter.unusedVariables false
set_option maxRecDepth 100000
/-! ### 3 heartwood/heartwoodlaw08.CheckTakes -/
theorem law08_CheckTakes_of {r : R3} {x0 x1 x2 x3 : AV} {H : List AObj} (hh : (fun n => (
 newK x2 H fun a1 H1 E1 =>
 newK x3 H1 fun a2 H2 E2 =>
 callK (EV C) false n_law08_up [] H2 fun a3 H3 E3 =>
 (loadA true 5 a2 H3).bind fun a4 =>
 callK (EV C) false n_law08_small [a4] H3 fun a5 H5 E5 =>
 (unA .not a5).bind fun a6 =>
 condK a6
 (endB false false n a3 H5 (E5 ++ (E3 ++ (E2 ++ (E1 ++ [])))))
 ((loadA true 3 a1 H5).bind fun a7 =>
 (loadA true 5 a2 H5).bind fun a8 =>
 callK (EV C) false n_check_Check [x0, x1, a7, a8] H5 fun a9 H9 E9 =>
 (extA a9 0).bind fun a10 =>
 (extA a9 1).bind fun a11 =>
 (callD (EV C) n_ref01_Made [] H9).bind fun a12 =>
 (loadA true 3 a1 H9).bind fun a13 =>
 (loadA true 5 a2 H9).bind fun a14 =>
 (callD (EV C) n_ref08_Check [a12, x0, x1, a13, a14] H9).bind fun a15 =>
 (extA a15 0).bind fun a16 =>
 (extA a15 1).bind fun a17 =>
 splitK a3
 (callK (EV C) false n_law00_Code [a11] H9 fun a18 H18 E18 =>
 (binA .eql (Go.TypeDesc.int Go.IntKind.i64) (cmpT Tryd.prog) false a18 a17).bind fun a19 =>
 splitK a19
 (callK (EV C) false n_ref06_Same [a10, a16] H18 fun a20 H20 E20 =>
 endB false false n a20 H20 (E20 ++ (E18 ++ (E9 ++ (E5 ++ (E3 ++ (E2 ++ (E1 ++ []))))))))
 (endB false false n (.bool false) H18 (E18 ++ (E9 ++ (E5 ++ (E3 ++ (E2 ++ (E1 ++ []))))))))
 (endB false false n (.bool false) H9 (E9 ++ (E5 ++ (E3 ++ (E2 ++ (E1 ++ []))))))))) (List.length H) = some r) : EV C n_law08_CheckTakes [x0, x1, x2, x3] H = some r :=
 EV_of_fnK' (fn := Tryd.f3) (by kernel_rfl) (by kernel_rfl) (by kernel_rfl) hh
/-! ### 4 heartwood/heartwoodlaw08.CheckOwn -/
theorem law08_CheckOwn_of {r : R3} {x0 x1 x2 : AV} {H : List AObj} (hh : (fun n => (
 newK x1 H fun a1 H1 E1 =>
 newK x2 H1 fun a2 H2 E2 =>
 callK (EV C) false n_law08_up [] H2 fun a3 H3 E3 =>
 (loadA true 5 a2 H3).bind fun a4 =>
 callK (EV C) false n_law08_small [a4] H3 fun a5 H5 E5 =>
 (loadA true 5 a2 H5).bind fun a6 =>
 callK (EV C) false n_tree_Digest [x0, a6] H5 fun a7 H7 E7 =>
 (extA a7 0).bind fun a8 =>
 (extA a7 1).bind fun a9 =>
 (unA .not a5).bind fun a10 =>
 splitK a10
 (endB false false n a3 H7 (E7 ++ (E5 ++ (E3 ++ (E2 ++ (E1 ++ []))))))
 ((binA .neq (Go.TypeDesc.interface #[("Error", 138)]) (cmpT Tryd.prog) true a9 .nili).bind fun a11 =>
 condK a11
 (endB false false n a3 H7 (E7 ++ (E5 ++ (E3 ++ (E2 ++ (E1 ++ []))))))
 ((loadA true 3 a1 H7).bind fun a12 =>
 (loadA true 5 a2 H7).bind fun a13 =>
 callK (EV C) false n_check_Check [x0, a8, a12, a13] H7 fun a14 H14 E14 =>
 (extA a14 0).bind fun a15 =>
 (extA a14 1).bind fun a16 =>
 (callD (EV C) n_ref01_Made [] H14).bind fun a17 =>
 (loadA true 3 a1 H14).bind fun a18 =>
 (loadA true 5 a2 H14).bind fun a19 =>
 (callD (EV C) n_ref08_Check [a17, x0, a8, a18, a19] H14).bind fun a20 =>
 (extA a20 0).bind fun a21 =>
 (extA a20 1).bind fun a22 =>
 splitK a3
 (callK (EV C) false n_law00_Code [a16] H14 fun a23 H23 E23 =>
 (binA .eql (Go.TypeDesc.int Go.IntKind.i64) (cmpT Tryd.prog) false a23 a22).bind fun a24 =>
 splitK a24
 (callK (EV C) false n_ref06_Same [a15, a21] H23 fun a25 H25 E25 =>
 endB false false n a25 H25 (E25 ++ (E23 ++ (E14 ++ (E7 ++ (E5 ++ (E3 ++ (E2 ++ (E1 ++ [])))))))))
 (endB false false n (.bool false) H23 (E23 ++ (E14 ++ (E7 ++ (E5 ++ (E3 ++ (E2 ++ (E1 ++ [])))))))))
 (endB false false n (.bool false) H14 (E14 ++ (E7 ++ (E5 ++ (E3 ++ (E2 ++ (E1 ++ []))))))))))) (List.length H) = some r) : EV C n_law08_CheckOwn [x0, x1, x2] H = some r :=
 EV_of_fnK' (fn := Tryd.f4) (by kernel_rfl) (by kernel_rfl) (by kernel_rfl) hh
/-! ### 5 heartwood/heartwoodlaw08.CheckLess -/
noncomputable def law08_CheckLess_J14 (n : Nat) (t11 t15 t17 t19 t20 t21 t22 : AV) (H : List AObj) (E : List Nat) : Option R3 :=
 loopK Tryd.prog C.G (EV C) (C.hint 5) Tryd.f5 (cAt (bodyOf Tryd.f5) [1, 1, 1, 1, 1, 1, 1, 1, 1, 1, 1, 0, 1, 0, 0]) (kAt Tryd.prog C.G (EV C) (C.hint 5) Tryd.f5 (bodyOf Tryd.f5) [1, 1, 1, 1, 1, 1, 1, 1, 1, 1, 1, 0, 1, 0] [] (endK Tryd.prog (C.hint 5) Tryd.f5 n))
 ⟨pat 115 [(11, t11), (15, t15), (17, t17), (19, t19), (20, t20), (21, t21), (22, t22)], H, E⟩
theorem law08_CheckLess_J14_of {r : R3} {n : Nat} {t11 t15 t17 t19 t20 t21 t22 : AV} {H : List AObj} {E : List Nat} (hh : (
 (lenV t15 H).bind fun a1 =>
 (binA .lss (Go.TypeDesc.int Go.IntKind.i64) (cmpT Tryd.prog) false t22 a1).bind fun a2 =>
 condK a2
 ((loadA true 3 t17 H).bind fun a3 =>
 (ixA 2 t15 t22 H).bind fun a4 =>
 (offA a4 0).bind fun a5 =>
 (loadA false 1 a5 H).bind fun a6 =>
 (callD (EV C) n_scan_In [a3, a6] H).bind fun a7 =>
 condK a7
 ((ixA 2 t15 t22 H).bind fun a8 =>
 (loadA true 2 a8 H).bind fun a9 =>
 litK 2 1 (.agg [.nils, .nils]) [(0, a9)] H fun a10 H10 E10 =>
 appK 2 48 t21 a10 H10 fun a11 H11 E11 =>
 (binA .add (Go.TypeDesc.int Go.IntKind.i64) (cmpT Tryd.prog) true t22 (.int .i64 1)).bind fun a12 =>
 law08_CheckLess_J14 n t11 t15 t17 t19 t20 a11 a12 H11 ((E11 ++ (E10 ++ [])) ++ E))
 ((binA .add (Go.TypeDesc.int Go.IntKind.i64) (cmpT Tryd.prog) true t22 (.int .i64 1)).bind fun a13 =>
 law08_CheckLess_J14 n t11 t15 t17 t19 t20 t21 a13 H E))
 (splitK t11
 ((binA .eql (Go.TypeDesc.interface #[("Error", 138)]) (cmpT Tryd.prog) true t20 .nili).bind fun a14 =>
 splitK a14
 (callK (EV C) false n_ref06_Same [t19, t21] H fun a15 H15 E15 =>
 endB false false n a15 H15 (E15 ++ E))
 (endB false false n (.bool false) H E))
 (endB false false n (.bool false) H E))) = some r) : law08_CheckLess_J14 n t11 t15 t17 t19 t20 t21 t22 H E = some r :=
 loop_step' (by kernel_rfl) hh
theorem law08_CheckLess_of {r : R3} {x0 x1 x2 x3 x4 : AV} {H : List AObj} (hh : (fun n => (
 newK x1 H fun a1 H1 E1 =>
 newK x4 H1 fun a2 H2 E2 =>
 callK (EV C) false n_law08_up [] H2 fun a3 H3 E3 =>
 (loadA true 5 a2 H3).bind fun a4 =>
 callK (EV C) false n_law08_small [a4] H3 fun a5 H5 E5 =>
 (loadA true 5 a2 H5).bind fun a6 =>
 callK (EV C) false n_tree_Digest [x0, a6] H5 fun a7 H7 E7 =>
 (extA a7 0).bind fun a8 =>
 (extA a7 1).bind fun a9 =>
 (unA .not a5).bind fun a10 =>
 splitK a10
 (endB false false n a3 H7 (E7 ++ (E5 ++ (E3 ++ (E2 ++ (E1 ++ []))))))
 ((binA .neq (Go.TypeDesc.interface #[("Error", 138)]) (cmpT Tryd.prog) true a9 .nili).bind fun a11 =>
 condK a11
 (endB false false n a3 H7 (E7 ++ (E5 ++ (E3 ++ (E2 ++ (E1 ++ []))))))
 ((loadA true 3 a1 H7).bind fun a12 =>
 (loadA true 5 a2 H7).bind fun a13 =>
 callK (EV C) false n_check_Check [x0, a8, a12, a13] H7 fun a14 H14 E14 =>
 (extA a14 0).bind fun a15 =>
 (extA a14 1).bind fun a16 =>
 (fillB (AV.cells (.agg [.nils, .nils, (.bool false)])) [(0, 1, x2), (1, 1, x3)]).bind fun c17 =>
 newK (.agg [.nils, .nils, (.bool false)]) H14 fun a18 H18 E18 =>
 stoK 3 a18 (.agg c17) H18 fun H19 E19 =>
 (cvL x2 H19).bind fun a20 =>
 (offA a1 0).bind fun a21 =>
 (loadA false 1 a21 H19).bind fun a22 =>
 (cvL a22 H19).bind fun a23 =>
 (binA .geq Go.TypeDesc.string (cmpT Tryd.prog) false a20 a23).bind fun a24 =>
 splitK a24
 ((offA a1 2).bind fun a25 =>
 (loadA false 1 a25 H19).bind fun a26 =>
 splitK a26
 ((binA .neq (Go.TypeDesc.interface #[("Error", 138)]) (cmpT Tryd.prog) true a16 .nili).bind fun a27 =>
 splitK a27
 (endB false false n a3 H19 (E19 ++ (E18 ++ (E14 ++ (E7 ++ (E5 ++ (E3 ++ (E2 ++ (E1 ++ [])))))))))
 ((unA .not (.bool true)).bind fun a28 =>
 condK a28
 (endB false false n a3 H19 (E19 ++ (E18 ++ (E14 ++ (E7 ++ (E5 ++ (E3 ++ (E2 ++ (E1 ++ [])))))))))
 ((loadA true 3 a18 H19).bind fun a29 =>
 (loadA true 5 a2 H19).bind fun a30 =>
 callK (EV C) false n_check_Check [x0, a8, a29, a30] H19 fun a31 H31 E31 =>
 (extA a31 0).bind fun a32 =>
 (extA a31 1).bind fun a33 =>
 law08_CheckLess_J14 n a3 a15 a18 a32 a33 (.slc (List.length H31) 0 0 0) (.int .i64 0) (H31 ++ [.vrow]) (E31 ++ (E19 ++ (E18 ++ (E14 ++ (E7 ++ (E5 ++ (E3 ++ (E2 ++ (E1 ++ []))))))))))))
 ((cvL x3 H19).bind fun a34 =>
 (offA a1 1).bind fun a35 =>
 (loadA false 1 a35 H19).bind fun a36 =>
 (cvL a36 H19).bind fun a37 =>
 (binA .leq Go.TypeDesc.string (cmpT Tryd.prog) false a34 a37).bind fun a38 =>
 (binA .neq (Go.TypeDesc.interface #[("Error", 138)]) (cmpT Tryd.prog) true a16 .nili).bind fun a39 =>
 splitK a39
 (endB false false n a3 H19 (E19 ++ (E18 ++ (E14 ++ (E7 ++ (E5 ++ (E3 ++ (E2 ++ (E1 ++ [])))))))))
 ((unA .not a38).bind fun a40 =>
 condK a40
 (endB false false n a3 H19 (E19 ++ (E18 ++ (E14 ++ (E7 ++ (E5 ++ (E3 ++ (E2 ++ (E1 ++ [])))))))))
 ((loadA true 3 a18 H19).bind fun a41 =>
 (loadA true 5 a2 H19).bind fun a42 =>
 callK (EV C) false n_check_Check [x0, a8, a41, a42] H19 fun a43 H43 E43 =>
 (extA a43 0).bind fun a44 =>
 (extA a43 1).bind fun a45 =>
 law08_CheckLess_J14 n a3 a15 a18 a44 a45 (.slc (List.length H43) 0 0 0) (.int .i64 0) (H43 ++ [.vrow]) (E43 ++ (E19 ++ (E18 ++ (E14 ++ (E7 ++ (E5 ++ (E3 ++ (E2 ++ (E1 ++ [])))))))))))))
 ((binA .neq (Go.TypeDesc.interface #[("Error", 138)]) (cmpT Tryd.prog) true a16 .nili).bind fun a46 =>
 splitK a46
 (endB false false n a3 H19 (E19 ++ (E18 ++ (E14 ++ (E7 ++ (E5 ++ (E3 ++ (E2 ++ (E1 ++ [])))))))))
 ((unA .not (.bool false)).bind fun a47 =>
 condK a47
 (endB false false n a3 H19 (E19 ++ (E18 ++ (E14 ++ (E7 ++ (E5 ++ (E3 ++ (E2 ++ (E1 ++ [])))))))))
 ((loadA true 3 a18 H19).bind fun a48 =>
 (loadA true 5 a2 H19).bind fun a49 =>
 callK (EV C) false n_check_Check [x0, a8, a48, a49] H19 fun a50 H50 E50 =>
 (extA a50 0).bind fun a51 =>
 (extA a50 1).bind fun a52 =>
 law08_CheckLess_J14 n a3 a15 a18 a51 a52 (.slc (List.length H50) 0 0 0) (.int .i64 0) (H50 ++ [.vrow]) (E50 ++ (E19 ++ (E18 ++ (E14 ++ (E7 ++ (E5 ++ (E3 ++ (E2 ++ (E1 ++ [])))))))))))))))) (List.length H) = some r) : EV C n_law08_CheckLess [x0, x1, x2, x3, x4] H = some r :=
 EV_of_fnK' (fn := Tryd.f5) (by kernel_rfl) (by kernel_rfl) (by kernel_rfl) hh
/-! ### 10 heartwood/heartwoodlaw08.CheckBytes -/
theorem law08_CheckBytes_of {r : R3} {x0 x1 x2 : AV} {H : List AObj} (hh : (fun n => (
 newK x2 H fun a1 H1 E1 =>
 callK (EV C) false n_law08_up [] H1 fun a2 H2 E2 =>
 (loadA true 5 a1 H2).bind fun a3 =>
 callK (EV C) false n_law08_small [a3] H2 fun a4 H4 E4 =>
 (loadA true 5 a1 H4).bind fun a5 =>
 callK (EV C) false n_tree_Digest [x0, a5] H4 fun a6 H6 E6 =>
 (extA a6 0).bind fun a7 =>
 (extA a6 1).bind fun a8 =>
 (unA .not a4).bind fun a9 =>
 splitK a9
 (endB false false n a2 H6 (E6 ++ (E4 ++ (E2 ++ (E1 ++ [])))))
 ((binA .neq (Go.TypeDesc.interface #[("Error", 138)]) (cmpT Tryd.prog) true a8 .nili).bind fun a10 =>
 condK a10
 (endB false false n a2 H6 (E6 ++ (E4 ++ (E2 ++ (E1 ++ [])))))
 ((loadA true 5 a1 H6).bind fun a11 =>
 callK (EV C) false n_check_Bytes [x0, a7, x1, a11] H6 fun a12 H12 E12 =>
 (extA a12 0).bind fun a13 =>
 (extA a12 1).bind fun a14 =>
 (extA a12 2).bind fun a15 =>
 (callD (EV C) n_scan_Point [x1] H12).bind fun a16 =>
 (loadA true 5 a1 H12).bind fun a17 =>
 (callD (EV C) n_check_Check [x0, a7, a16, a17] H12).bind fun a18 =>
 (extA a18 0).bind fun a19 =>
 (extA a18 1).bind fun a20 =>
 callK (EV C) false n_law00_Code [a15] H12 fun a21 H21 E21 =>
 callK (EV C) false n_law00_Code [a20] H21 fun a22 H22 E22 =>
 (binA .neq (Go.TypeDesc.int Go.IntKind.i64) (cmpT Tryd.prog) false a21 a22).bind fun a23 =>
 splitK a23
 (endB false false n (.bool false) H22 (E22 ++ (E21 ++ (E12 ++ (E6 ++ (E4 ++ (E2 ++ (E1 ++ []))))))))
 ((lenV a19 H22).bind fun a24 =>
 (binA .eql (Go.TypeDesc.int Go.IntKind.i64) (cmpT Tryd.prog) true a24 (.int .i64 1)).bind fun a25 =>
 (binA .neq Go.TypeDesc.bool (cmpT Tryd.prog) false a14 a25).bind fun a26 =>
 condK a26
 (endB false false n (.bool false) H22 (E22 ++ (E21 ++ (E12 ++ (E6 ++ (E4 ++ (E2 ++ (E1 ++ []))))))))
 (splitK a2
 (splitK a14
 ((cvL a13 H22).bind fun a27 =>
 (ixA 2 a19 (.int .i64 0) H22).bind fun a28 =>
 (offA a28 1).bind fun a29 =>
 (loadA false 1 a29 H22).bind fun a30 =>
 (cvL a30 H22).bind fun a31 =>
 (binA .eql Go.TypeDesc.string (cmpT Tryd.prog) false a27 a31).bind fun a32 =>
 splitK a32
 (endB false false n (.bool true) H22 (E22 ++ (E21 ++ (E12 ++ (E6 ++ (E4 ++ (E2 ++ (E1 ++ []))))))))
 ((unA .not a14).bind fun a33 =>
 splitK a33
 ((lenV a13 H22).bind fun a34 =>
 (binA .eql (Go.TypeDesc.int Go.IntKind.i64) (cmpT Tryd.prog) true a34 (.int .i64 0)).bind fun a35 =>
 endB false false n a35 H22 (E22 ++ (E21 ++ (E12 ++ (E6 ++ (E4 ++ (E2 ++ (E1 ++ []))))))))
 (endB false false n (.bool false) H22 (E22 ++ (E21 ++ (E12 ++ (E6 ++ (E4 ++ (E2 ++ (E1 ++ []))))))))))
 ((unA .not a14).bind fun a36 =>
 splitK a36
 ((lenV a13 H22).bind fun a37 =>
 (binA .eql (Go.TypeDesc.int Go.IntKind.i64) (cmpT Tryd.prog) true a37 (.int .i64 0)).bind fun a38 =>
 endB false false n a38 H22 (E22 ++ (E21 ++ (E12 ++ (E6 ++ (E4 ++ (E2 ++ (E1 ++ []))))))))
 (endB false false n (.bool false) H22 (E22 ++ (E21 ++ (E12 ++ (E6 ++ (E4 ++ (E2 ++ (E1 ++ []))))))))))
 (endB false false n (.bool false) H22 (E22 ++ (E21 ++ (E12 ++ (E6 ++ (E4 ++ (E2 ++ (E1 ++ [])))))))))))))) (List.length H) = some r) : EV C n_law08_CheckBytes [x0, x1, x2] H = some r :=
 EV_of_fnK' (fn := Tryd.f10) (by kernel_rfl) (by kernel_rfl) (by kernel_rfl) hh
/-! ### 15 heartwood/heartwoodlaw09.ClashProves -/
theorem law09_ClashProves_of {r : R3} {x0 x1 x2 x3 : AV} {H : List AObj} (hh : (fun n => (
 newK x1 H fun a1 H1 E1 =>
 newK x2 H1 fun a2 H2 E2 =>
 newK x3 H2 fun a3 H3 E3 =>
 callK (EV C) false n_law09_up [] H3 fun a4 H4 E4 =>
 (loadA true 5 a2 H4).bind fun a5 =>
 callK (EV C) false n_law09_small [a5] H4 fun a6 H6 E6 =>
 (unA .not a6).bind fun a7 =>
 splitK a7
 (endB false false n a4 H6 (E6 ++ (E4 ++ (E3 ++ (E2 ++ (E1 ++ []))))))
 ((loadA true 5 a3 H6).bind fun a8 =>
 callK (EV C) false n_law09_small [a8] H6 fun a9 H9 E9 =>
 (unA .not a9).bind fun a10 =>
 condK a10
 (endB false false n a4 H9 (E9 ++ (E6 ++ (E4 ++ (E3 ++ (E2 ++ (E1 ++ [])))))))
 ((loadA true 5 a2 H9).bind fun a11 =>
 callK (EV C) false n_tree_Digest [x0, a11] H9 fun a12 H12 E12 =>
 (extA a12 0).bind fun a13 =>
 (extA a12 1).bind fun a14 =>
 (binA .neq (Go.TypeDesc.interface #[("Error", 138)]) (cmpT Tryd.prog) true a14 .nili).bind fun a15 =>
 condK a15
 (endB false false n a4 H12 (E12 ++ (E9 ++ (E6 ++ (E4 ++ (E3 ++ (E2 ++ (E1 ++ []))))))))
 ((loadA true 3 a1 H12).bind fun a16 =>
 (loadA true 5 a2 H12).bind fun a17 =>
 callK (EV C) false n_check_Check [x0, a13, a16, a17] H12 fun a18 H18 E18 =>
 (extA a18 0).bind fun a19 =>
 (extA a18 1).bind fun a20 =>
 (loadA true 3 a1 H18).bind fun a21 =>
 (loadA true 5 a3 H18).bind fun a22 =>
 callK (EV C) false n_check_Check [x0, a13, a21, a22] H18 fun a23 H23 E23 =>
 (extA a23 0).bind fun a24 =>
 (extA a23 1).bind fun a25 =>
 (binA .neq (Go.TypeDesc.interface #[("Error", 138)]) (cmpT Tryd.prog) true a20 .nili).bind fun a26 =>
 splitK a26
 (endB false false n a4 H23 (E23 ++ (E18 ++ (E12 ++ (E9 ++ (E6 ++ (E4 ++ (E3 ++ (E2 ++ (E1 ++ []))))))))))
 ((binA .neq (Go.TypeDesc.interface #[("Error", 138)]) (cmpT Tryd.prog) true a25 .nili).bind fun a27 =>
 splitK a27
 (endB false false n a4 H23 (E23 ++ (E18 ++ (E12 ++ (E9 ++ (E6 ++ (E4 ++ (E3 ++ (E2 ++ (E1 ++ []))))))))))
 (callK (EV C) false n_ref06_Same [a19, a24] H23 fun a28 H28 E28 =>
 condK a28
 (endB false false n a4 H28 (E28 ++ (E23 ++ (E18 ++ (E12 ++ (E9 ++ (E6 ++ (E4 ++ (E3 ++ (E2 ++ (E1 ++ [])))))))))))
 ((loadA true 5 a2 H28).bind fun a29 =>
 (loadA true 5 a3 H28).bind fun a30 =>
 callK (EV C) false n_clash_Find [x0, a29, a30] H28 fun a31 H31 E31 =>
 (extA a31 0).bind fun a32 =>
 (extA a31 1).bind fun a33 =>
 (extA a31 2).bind fun a34 =>
 callK (EV C) false n_digest_Of [x0, a32] H31 fun a35 H35 E35 =>
 (extA a35 0).bind fun a36 =>
 (extA a35 1).bind fun a37 =>
 callK (EV C) false n_digest_Of [x0, a33] H35 fun a38 H38 E38 =>
 (extA a38 0).bind fun a39 =>
 (extA a38 1).bind fun a40 =>
 splitK a4
 ((binA .eql (Go.TypeDesc.interface #[("Error", 138)]) (cmpT Tryd.prog) true a34 .nili).bind fun a41 =>
 splitK a41
 ((binA .eql (Go.TypeDesc.interface #[("Error", 138)]) (cmpT Tryd.prog) true a37 .nili).bind fun a42 =>
 splitK a42
 ((binA .eql (Go.TypeDesc.interface #[("Error", 138)]) (cmpT Tryd.prog) true a40 .nili).bind fun a43 =>
 splitK a43
 ((cvL a32 H38).bind fun a44 =>
 (cvL a33 H38).bind fun a45 =>
 (binA .neq Go.TypeDesc.string (cmpT Tryd.prog) false a44 a45).bind fun a46 =>
 splitK a46
 ((cvL a36 H38).bind fun a47 =>
 (cvL a39 H38).bind fun a48 =>
 (binA .eql Go.TypeDesc.string (cmpT Tryd.prog) false a47 a48).bind fun a49 =>
 endB false false n a49 H38 (E38 ++ (E35 ++ (E31 ++ (E28 ++ (E23 ++ (E18 ++ (E12 ++ (E9 ++ (E6 ++ (E4 ++ (E3 ++ (E2 ++ (E1 ++ []))))))))))))))
 (endB false false n (.bool false) H38 (E38 ++ (E35 ++ (E31 ++ (E28 ++ (E23 ++ (E18 ++ (E12 ++ (E9 ++ (E6 ++ (E4 ++ (E3 ++ (E2 ++ (E1 ++ [])))))))))))))))
 (endB false false n (.bool false) H38 (E38 ++ (E35 ++ (E31 ++ (E28 ++ (E23 ++ (E18 ++ (E12 ++ (E9 ++ (E6 ++ (E4 ++ (E3 ++ (E2 ++ (E1 ++ [])))))))))))))))
 (endB false false n (.bool false) H38 (E38 ++ (E35 ++ (E31 ++ (E28 ++ (E23 ++ (E18 ++ (E12 ++ (E9 ++ (E6 ++ (E4 ++ (E3 ++ (E2 ++ (E1 ++ [])))))))))))))))
 (endB false false n (.bool false) H38 (E38 ++ (E35 ++ (E31 ++ (E28 ++ (E23 ++ (E18 ++ (E12 ++ (E9 ++ (E6 ++ (E4 ++ (E3 ++ (E2 ++ (E1 ++ [])))))))))))))))
 (endB false false n (.bool false) H38 (E38 ++ (E35 ++ (E31 ++ (E28 ++ (E23 ++ (E18 ++ (E12 ++ (E9 ++ (E6 ++ (E4 ++ (E3 ++ (E2 ++ (E1 ++ [])))))))))))))))))))))) (List.length H) = some r) : EV C n_law09_ClashProves [x0, x1, x2, x3] H = some r :=
 EV_of_fnK' (fn := Tryd.f15) (by kernel_rfl) (by kernel_rfl) (by kernel_rfl) hh
end Go.Pm
