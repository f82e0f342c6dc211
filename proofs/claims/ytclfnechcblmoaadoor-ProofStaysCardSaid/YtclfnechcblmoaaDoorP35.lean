/- A part of the proof: what the functions of the program answer, as plain lists and numbers. -/
import Derived.Test.YtclfnechcblmoaaDoorP9
namespace Go.Pm
open Go.Proofs
set_option linter.unusedVariables false
set_option maxRecDepth 100000
theorem proof_prover_cut_of {r : R3} {x0 x1 : AV} {H : List AObj} (hh : (fun n => (
 newK x0 H fun a1 H1 E1 =>
 newK x1 H1 fun a2 H2 E2 =>
 newK (.agg [(.int .i64 0), .nils, .nils, .nils, .nils]) H2 fun a3 H3 E3 =>
 (offA a2 4).bind fun a4 =>
 (loadA false 1 a4 H3).bind fun a5 =>
 (lenV a5 H3).bind fun a6 =>
 (binA .eql (Go.TypeDesc.int Go.IntKind.i64) (cmpT Tryd.prog) true a6 (.int .i64 0)).bind fun a7 =>
 condK a7
 ((fillB (AV.cells (.agg [(.int .i64 0), .nils, .nils, .nils, .nils])) []).bind fun c8 =>
 stoK 5 a3 (.agg c8) H3 fun H9 E9 =>
 (loadA true 5 a3 H9).bind fun a10 =>
 endB false false n a10 H9 (E9 ++ (E3 ++ (E2 ++ (E1 ++ [])))))
 ((offA a1 0).bind fun a11 =>
 (loadA false 1 a11 H3).bind fun a12 =>
 (loadA true 5 a2 H3).bind fun a13 =>
 callK (EV C) false n_tree_Digest [a12, a13] H3 fun a14 H14 E14 =>
 (extA a14 0).bind fun a15 =>
 (extA a14 1).bind fun a16 =>
 (binA .neq (Go.TypeDesc.interface #[("Error", 138)]) (cmpT Tryd.prog) true a16 .nili).bind fun a17 =>
 condK a17
 ((fillB (AV.cells (.agg [(.int .i64 0), .nils, .nils, .nils, .nils])) []).bind fun c18 =>
 stoK 5 a3 (.agg c18) H14 fun H19 E19 =>
 (loadA true 5 a3 H19).bind fun a20 =>
 endB false false n a20 H19 (E19 ++ (E14 ++ (E3 ++ (E2 ++ (E1 ++ []))))))
 ((fillB (AV.cells (.agg [(.int .i64 0), .nils, .nils, .nils, .nils])) [(0, 1, (.int .i64 3)), (3, 1, a15)]).bind fun c21 =>
 stoK 5 a3 (.agg c21) H14 fun H22 E22 =>
 (loadA true 5 a3 H22).bind fun a23 =>
 endB false false n a23 H22 (E22 ++ (E14 ++ (E3 ++ (E2 ++ (E1 ++ []))))))))) (List.length H) = some r) : EV C n_proof_prover_cut [x0, x1] H = some r :=
 EV_of_fnK' (fn := Tryd.f94) (by kernel_rfl) (by kernel_rfl) (by kernel_rfl) hh
theorem proof_prover_show_of {r : R3} {x0 x1 : AV} {H : List AObj} (hh : (fun n => (
 newK x0 H fun a1 H1 E1 =>
 newK x1 H1 fun a2 H2 E2 =>
 newK (.agg [(.int .i64 0), .nils, .nils, .nils, .nils]) H2 fun a3 H3 E3 =>
 (offA a2 4).bind fun a4 =>
 (loadA false 1 a4 H3).bind fun a5 =>
 (lenV a5 H3).bind fun a6 =>
 (binA .eql (Go.TypeDesc.int Go.IntKind.i64) (cmpT Tryd.prog) true a6 (.int .i64 0)).bind fun a7 =>
 condK a7
 ((fillB (AV.cells (.agg [(.int .i64 0), .nils, .nils, .nils, .nils])) []).bind fun c8 =>
 stoK 5 a3 (.agg c8) H3 fun H9 E9 =>
 (loadA true 5 a3 H9).bind fun a10 =>
 endB false false n a10 H9 (E9 ++ (E3 ++ (E2 ++ (E1 ++ [])))))
 ((offA a2 1).bind fun a11 =>
 (loadA false 1 a11 H3).bind fun a12 =>
 callK (EV C) false n_Clone_byte [a12] H3 fun a13 H13 E13 =>
 (fillB (AV.cells (.agg [(.int .i64 0), .nils, .nils, .nils, .nils])) [(0, 1, (.int .i64 1)), (1, 1, a13)]).bind fun c14 =>
 newK (.agg [(.int .i64 0), .nils, .nils, .nils, .nils]) H13 fun a15 H15 E15 =>
 stoK 5 a15 (.agg c14) H15 fun H16 E16 =>
 (offA a2 4).bind fun a17 =>
 (loadA false 1 a17 H16).bind fun a18 =>
 (ixA 5 a18 (.int .i64 0) H16).bind fun a19 =>
 (loadA true 5 a19 H16).bind fun a20 =>
 (offA a2 4).bind fun a21 =>
 (loadA false 1 a21 H16).bind fun a22 =>
 (ixA 5 a22 (.int .i64 1) H16).bind fun a23 =>
 (loadA true 5 a23 H16).bind fun a24 =>
 sizK 5 a20
 (newK a20 H16 fun a25 H25 E25 =>
 drawK (((loadA false 1 a21 H25).bind fun a26 =>
 some a26) = some a22)
 (drawK (((ixA 5 a22 (.int .i64 1) H25).bind fun a27 =>
 some a27) = some a23)
 (drawK (((loadA true 5 a23 H25).bind fun a28 =>
 some a28) = some a24)
 (sizK 5 a24
 (newK a24 H25 fun a29 H29 E29 =>
 (offA a1 1).bind fun a30 =>
 (loadA true 3 a30 H29).bind fun a31 =>
 (offA a2 1).bind fun a32 =>
 (loadA false 1 a32 H29).bind fun a33 =>
 callK (EV C) false n_scan_In [a31, a33] H29 fun a34 H34 E34 =>
 condK a34
 ((offA a2 2).bind fun a35 =>
 (loadA false 1 a35 H34).bind fun a36 =>
 callK (EV C) false n_Clone_byte [a36] H34 fun a37 H37 E37 =>
 (offA a15 2).bind fun a38 =>
 stoK 1 a38 a37 H37 fun H39 E39 =>
 (loadA true 4 a1 H39).bind fun a40 =>
 (loadA true 5 a25 H39).bind fun a41 =>
 (callD (EV C) n_proof_prover_show [a40, a41] H39).bind fun a42 =>
 (loadA true 4 a1 H39).bind fun a43 =>
 (loadA true 5 a29 H39).bind fun a44 =>
 (callD (EV C) n_proof_prover_show [a43, a44] H39).bind fun a45 =>
 (litD 5 2 (.agg [(.int .i64 0), .nils, .nils, .nils, .nils]) [(0, a42), (1, a45)] H39).bind fun a46 =>
 (offA a15 4).bind fun a47 =>
 stoK 1 a47 a46 H39 fun H48 E48 =>
 (loadA true 5 a15 H48).bind fun a49 =>
 stoK 5 a3 a49 H48 fun H50 E50 =>
 (loadA true 5 a3 H50).bind fun a51 =>
 endB false false n a51 H50 (E50 ++ (E48 ++ (E39 ++ (E37 ++ (E34 ++ (E29 ++ (E25 ++ (E16 ++ (E15 ++ (E13 ++ (E3 ++ (E2 ++ (E1 ++ []))))))))))))))
 ((offA a15 0).bind fun a52 =>
 stoK 1 a52 (.int .i64 2) H34 fun H53 E53 =>
 (offA a1 0).bind fun a54 =>
 (loadA false 1 a54 H53).bind fun a55 =>
 (offA a2 2).bind fun a56 =>
 (loadA false 1 a56 H53).bind fun a57 =>
 (callD (EV C) n_digest_Value [a57] H53).bind fun a58 =>
 (callD (EV C) n_digest_Of [a55, a58] H53).bind fun a59 =>
 (extA a59 0).bind fun a60 =>
 (extA a59 1).bind fun a61 =>
 (binA .neq (Go.TypeDesc.interface #[("Error", 138)]) (cmpT Tryd.prog) true a61 .nili).bind fun a62 =>
 condK a62
 ((fillB (AV.cells (.agg [(.int .i64 0), .nils, .nils, .nils, .nils])) []).bind fun c63 =>
 stoK 5 a3 (.agg c63) H53 fun H64 E64 =>
 (loadA true 5 a3 H64).bind fun a65 =>
 endB false false n a65 H64 (E64 ++ (E53 ++ (E34 ++ (E29 ++ (E25 ++ (E16 ++ (E15 ++ (E13 ++ (E3 ++ (E2 ++ (E1 ++ []))))))))))))
 ((offA a15 3).bind fun a66 =>
 stoK 1 a66 a60 H53 fun H67 E67 =>
 (offA a2 1).bind fun a68 =>
 (loadA false 1 a68 H67).bind fun a69 =>
 (offA a1 1).bind fun a70 =>
 (offA a70 0).bind fun a71 =>
 (loadA false 1 a71 H67).bind fun a72 =>
 callK (EV C) false n_bytes_Compare [a69, a72] H67 fun a73 H73 E73 =>
 (binA .lss (Go.TypeDesc.int Go.IntKind.i64) (cmpT Tryd.prog) true a73 (.int .i64 0)).bind fun a74 =>
 condK a74
 ((loadA true 4 a1 H73).bind fun a75 =>
 (loadA true 5 a25 H73).bind fun a76 =>
 (callD (EV C) n_proof_prover_cut [a75, a76] H73).bind fun a77 =>
 (loadA true 4 a1 H73).bind fun a78 =>
 (loadA true 5 a29 H73).bind fun a79 =>
 (callD (EV C) n_proof_prover_show [a78, a79] H73).bind fun a80 =>
 (litD 5 2 (.agg [(.int .i64 0), .nils, .nils, .nils, .nils]) [(0, a77), (1, a80)] H73).bind fun a81 =>
 (offA a15 4).bind fun a82 =>
 stoK 1 a82 a81 H73 fun H83 E83 =>
 (loadA true 5 a15 H83).bind fun a84 =>
 stoK 5 a3 a84 H83 fun H85 E85 =>
 (loadA true 5 a3 H85).bind fun a86 =>
 endB false false n a86 H85 (E85 ++ (E83 ++ (E73 ++ (E67 ++ (E53 ++ (E34 ++ (E29 ++ (E25 ++ (E16 ++ (E15 ++ (E13 ++ (E3 ++ (E2 ++ (E1 ++ [])))))))))))))))
 ((loadA true 4 a1 H73).bind fun a87 =>
 (loadA true 5 a25 H73).bind fun a88 =>
 (callD (EV C) n_proof_prover_show [a87, a88] H73).bind fun a89 =>
 (loadA true 4 a1 H73).bind fun a90 =>
 (loadA true 5 a29 H73).bind fun a91 =>
 (callD (EV C) n_proof_prover_cut [a90, a91] H73).bind fun a92 =>
 (litD 5 2 (.agg [(.int .i64 0), .nils, .nils, .nils, .nils]) [(0, a89), (1, a92)] H73).bind fun a93 =>
 (offA a15 4).bind fun a94 =>
 stoK 1 a94 a93 H73 fun H95 E95 =>
 (loadA true 5 a15 H95).bind fun a96 =>
 stoK 5 a3 a96 H95 fun H97 E97 =>
 (loadA true 5 a3 H97).bind fun a98 =>
 endB false false n a98 H97 (E97 ++ (E95 ++ (E73 ++ (E67 ++ (E53 ++ (E34 ++ (E29 ++ (E25 ++ (E16 ++ (E15 ++ (E13 ++ (E3 ++ (E2 ++ (E1 ++ []))))))))))))))))))))))))) (List.length H) = some r) : EV C n_proof_prover_show [x0, x1] H = some r :=
 EV_of_fnK' (fn := Tryd.f71) (by kernel_rfl) (by kernel_rfl) (by kernel_rfl) hh
theorem proof_Prove_of {r : R3} {x0 x1 x2 : AV} {H : List AObj} (hh : (fun n => (
 newK x1 H fun a1 H1 E1 =>
 newK x2 H1 fun a2 H2 E2 =>
 newK (.agg [(.int .i64 0), .nils, .nils, .nils, .nils]) H2 fun a3 H3 E3 =>
 (binA .lss (Go.TypeDesc.int Go.IntKind.i64) (cmpT Tryd.prog) true x0 (.int .i64 1)).bind fun a4 =>
 splitK a4
 ((fillB (AV.cells (.agg [(.int .i64 0), .nils, .nils, .nils, .nils])) []).bind fun c5 =>
 stoK 5 a3 (.agg c5) H3 fun H6 E6 =>
 (loadA true 5 a3 H6).bind fun a7 =>
 endB false false n (.tup [a7, (.ifc t_api_Code (.int .i64 1))]) H6 (E6 ++ (E3 ++ (E2 ++ (E1 ++ [])))))
 ((binA .gtr (Go.TypeDesc.int Go.IntKind.i64) (cmpT Tryd.prog) true x0 (.int .i64 32)).bind fun a8 =>
 condK a8
 ((fillB (AV.cells (.agg [(.int .i64 0), .nils, .nils, .nils, .nils])) []).bind fun c9 =>
 stoK 5 a3 (.agg c9) H3 fun H10 E10 =>
 (loadA true 5 a3 H10).bind fun a11 =>
 endB false false n (.tup [a11, (.ifc t_api_Code (.int .i64 1))]) H10 (E10 ++ (E3 ++ (E2 ++ (E1 ++ [])))))
 ((loadA true 5 a1 H3).bind fun a12 =>
 callK (EV C) false n_avl_Is [a12] H3 fun a13 H13 E13 =>
 (unA .not a13).bind fun a14 =>
 condK a14
 ((fillB (AV.cells (.agg [(.int .i64 0), .nils, .nils, .nils, .nils])) []).bind fun c15 =>
 stoK 5 a3 (.agg c15) H13 fun H16 E16 =>
 (loadA true 5 a3 H16).bind fun a17 =>
 endB false false n (.tup [a17, (.ifc t_api_Code (.int .i64 3))]) H16 (E16 ++ (E13 ++ (E3 ++ (E2 ++ (E1 ++ []))))))
 ((loadA true 3 a2 H13).bind fun a18 =>
 (fillB (AV.cells (.agg [(.int .i64 0), .nils, .nils, (.bool false)])) [(0, 1, x0), (1, 3, a18)]).bind fun c19 =>
 (loadA true 5 a1 H13).bind fun a20 =>
 callK (EV C) false n_proof_prover_show [(.agg c19), a20] H13 fun a21 H21 E21 =>
 stoK 5 a3 a21 H21 fun H22 E22 =>
 (loadA true 5 a3 H22).bind fun a23 =>
 endB false false n (.tup [a23, .nili]) H22 (E22 ++ (E21 ++ (E13 ++ (E3 ++ (E2 ++ (E1 ++ []))))))))))) (List.length H) = some r) : EV C n_proof_Prove [x0, x1, x2] H = some r :=
 EV_of_fnK' (fn := Tryd.f41) (by kernel_rfl) (by kernel_rfl) (by kernel_rfl) hh
theorem ref05_Node_of {r : R3} {x0 x1 x2 x3 : AV} {H : List AObj} (hh : (fun n => (
 newK x0 H fun a1 H1 E1 =>
 newK x3 H1 fun a2 H2 E2 =>
 newK (.agg [(.int .i64 0), .nils, .nils, .nils, .nils]) H2 fun a3 H3 E3 =>
 (loadA true 5 a1 H3).bind fun a4 =>
 (loadA true 5 a2 H3).bind fun a5 =>
 litK 5 2 (.agg [(.int .i64 0), .nils, .nils, .nils, .nils]) [(0, a4), (1, a5)] H3 fun a6 H6 E6 =>
 (fillB (AV.cells (.agg [(.int .i64 0), .nils, .nils, .nils, .nils])) [(0, 1, (.int .i64 1)), (1, 1, x1), (2, 1, x2), (4, 1, a6)]).bind fun c7 =>
 stoK 5 a3 (.agg c7) H6 fun H8 E8 =>
 (loadA true 5 a3 H8).bind fun a9 =>
 endB false false n a9 H8 (E8 ++ (E6 ++ (E3 ++ (E2 ++ (E1 ++ []))))))) (List.length H) = some r) : EV C n_ref05_Node [x0, x1, x2, x3] H = some r :=
 EV_of_fnK' (fn := Tryd.f95) (by kernel_rfl) (by kernel_rfl) (by kernel_rfl) hh
theorem ref05_level_of {r : R3} {x0 : AV} {H : List AObj} (hh : (fun n => (
 newK x0 H fun a1 H1 E1 =>
 newK (.agg [(.int .i64 0), .nils, .nils, .nils, .nils]) H1 fun a2 H2 E2 =>
 (loadA true 5 a1 H2).bind fun a3 =>
 callK (EV C) false n_ref05_tilt [a3] H2 fun a4 H4 E4 =>
 (binA .eql (Go.TypeDesc.int Go.IntKind.i64) (cmpT Tryd.prog) true a4 (.int .i64 2)).bind fun a5 =>
 condK a5
 ((offA a1 4).bind fun a6 =>
 (loadA false 1 a6 H4).bind fun a7 =>
 (ixA 5 a7 (.int .i64 0) H4).bind fun a8 =>
 (loadA true 5 a8 H4).bind fun a9 =>
 callK (EV C) false n_ref05_tilt [a9] H4 fun a10 H10 E10 =>
 (binA .lss (Go.TypeDesc.int Go.IntKind.i64) (cmpT Tryd.prog) true a10 (.int .i64 0)).bind fun a11 =>
 condK a11
 ((offA a1 4).bind fun a12 =>
 (loadA false 1 a12 H10).bind fun a13 =>
 (ixA 5 a13 (.int .i64 0) H10).bind fun a14 =>
 (loadA true 5 a14 H10).bind fun a15 =>
 (callD (EV C) n_ref05_left [a15] H10).bind fun a16 =>
 (offA a1 1).bind fun a17 =>
 (loadA false 1 a17 H10).bind fun a18 =>
 (offA a1 2).bind fun a19 =>
 (loadA false 1 a19 H10).bind fun a20 =>
 (offA a1 4).bind fun a21 =>
 (loadA false 1 a21 H10).bind fun a22 =>
 (ixA 5 a22 (.int .i64 1) H10).bind fun a23 =>
 (loadA true 5 a23 H10).bind fun a24 =>
 (callD (EV C) n_ref05_Node [a16, a18, a20, a24] H10).bind fun a25 =>
 stoK 5 a1 a25 H10 fun H26 E26 =>
 (loadA true 5 a1 H26).bind fun a27 =>
 callK (EV C) false n_ref05_right [a27] H26 fun a28 H28 E28 =>
 stoK 5 a2 a28 H28 fun H29 E29 =>
 (loadA true 5 a2 H29).bind fun a30 =>
 endB false false n a30 H29 (E29 ++ (E28 ++ (E26 ++ (E10 ++ (E4 ++ (E2 ++ (E1 ++ []))))))))
 ((loadA true 5 a1 H10).bind fun a31 =>
 callK (EV C) false n_ref05_right [a31] H10 fun a32 H32 E32 =>
 stoK 5 a2 a32 H32 fun H33 E33 =>
 (loadA true 5 a2 H33).bind fun a34 =>
 endB false false n a34 H33 (E33 ++ (E32 ++ (E10 ++ (E4 ++ (E2 ++ (E1 ++ []))))))))
 ((binA .eql (Go.TypeDesc.int Go.IntKind.i64) (cmpT Tryd.prog) true a4 (.int .i64 (-2))).bind fun a35 =>
 condK a35
 ((offA a1 4).bind fun a36 =>
 (loadA false 1 a36 H4).bind fun a37 =>
 (ixA 5 a37 (.int .i64 1) H4).bind fun a38 =>
 (loadA true 5 a38 H4).bind fun a39 =>
 callK (EV C) false n_ref05_tilt [a39] H4 fun a40 H40 E40 =>
 (binA .gtr (Go.TypeDesc.int Go.IntKind.i64) (cmpT Tryd.prog) true a40 (.int .i64 0)).bind fun a41 =>
 condK a41
 ((offA a1 4).bind fun a42 =>
 (loadA false 1 a42 H40).bind fun a43 =>
 (ixA 5 a43 (.int .i64 0) H40).bind fun a44 =>
 (loadA true 5 a44 H40).bind fun a45 =>
 (offA a1 1).bind fun a46 =>
 (loadA false 1 a46 H40).bind fun a47 =>
 (offA a1 2).bind fun a48 =>
 (loadA false 1 a48 H40).bind fun a49 =>
 (offA a1 4).bind fun a50 =>
 (loadA false 1 a50 H40).bind fun a51 =>
 (ixA 5 a51 (.int .i64 1) H40).bind fun a52 =>
 (loadA true 5 a52 H40).bind fun a53 =>
 (callD (EV C) n_ref05_right [a53] H40).bind fun a54 =>
 (callD (EV C) n_ref05_Node [a45, a47, a49, a54] H40).bind fun a55 =>
 stoK 5 a1 a55 H40 fun H56 E56 =>
 (loadA true 5 a1 H56).bind fun a57 =>
 callK (EV C) false n_ref05_left [a57] H56 fun a58 H58 E58 =>
 stoK 5 a2 a58 H58 fun H59 E59 =>
 (loadA true 5 a2 H59).bind fun a60 =>
 endB false false n a60 H59 (E59 ++ (E58 ++ (E56 ++ (E40 ++ (E4 ++ (E2 ++ (E1 ++ []))))))))
 ((loadA true 5 a1 H40).bind fun a61 =>
 callK (EV C) false n_ref05_left [a61] H40 fun a62 H62 E62 =>
 stoK 5 a2 a62 H62 fun H63 E63 =>
 (loadA true 5 a2 H63).bind fun a64 =>
 endB false false n a64 H63 (E63 ++ (E62 ++ (E40 ++ (E4 ++ (E2 ++ (E1 ++ []))))))))
 ((loadA true 5 a1 H4).bind fun a65 =>
 stoK 5 a2 a65 H4 fun H66 E66 =>
 (loadA true 5 a2 H66).bind fun a67 =>
 endB false false n a67 H66 (E66 ++ (E4 ++ (E2 ++ (E1 ++ [])))))))) (List.length H) = some r) : EV C n_ref05_level [x0] H = some r :=
 EV_of_fnK' (fn := Tryd.f96) (by kernel_rfl) (by kernel_rfl) (by kernel_rfl) hh
theorem ref05_tilt_of {r : R3} {x0 : AV} {H : List AObj} (hh : (fun n => (
 newK x0 H fun a1 H1 E1 =>
 (offA a1 4).bind fun a2 =>
 (loadA false 1 a2 H1).bind fun a3 =>
 (ixA 5 a3 (.int .i64 0) H1).bind fun a4 =>
 (loadA true 5 a4 H1).bind fun a5 =>
 (callD (EV C) n_ref04_Depth [a5] H1).bind fun a6 =>
 (offA a1 4).bind fun a7 =>
 (loadA false 1 a7 H1).bind fun a8 =>
 (ixA 5 a8 (.int .i64 1) H1).bind fun a9 =>
 (loadA true 5 a9 H1).bind fun a10 =>
 (callD (EV C) n_ref04_Depth [a10] H1).bind fun a11 =>
 (binA .sub (Go.TypeDesc.int Go.IntKind.i64) (cmpT Tryd.prog) false a6 a11).bind fun a12 =>
 endB false false n a12 H1 (E1 ++ []))) (List.length H) = some r) : EV C n_ref05_tilt [x0] H = some r :=
 EV_of_fnK' (fn := Tryd.f109) (by kernel_rfl) (by kernel_rfl) (by kernel_rfl) hh
theorem ref05_left_of {r : R3} {x0 : AV} {H : List AObj} (hh : (fun n => (
 newK x0 H fun a1 H1 E1 =>
 newK (.agg [(.int .i64 0), .nils, .nils, .nils, .nils]) H1 fun a2 H2 E2 =>
 (offA a1 4).bind fun a3 =>
 (loadA false 1 a3 H2).bind fun a4 =>
 (ixA 5 a4 (.int .i64 1) H2).bind fun a5 =>
 (loadA true 5 a5 H2).bind fun a6 =>
 newK (.agg [(.int .i64 0), .nils, .nils, .nils, .nils]) H2 fun a7 H7 E7 =>
 stoK 5 a7 a6 H7 fun H8 E8 =>
 (offA a1 4).bind fun a9 =>
 (loadA false 1 a9 H8).bind fun a10 =>
 (ixA 5 a10 (.int .i64 0) H8).bind fun a11 =>
 (loadA true 5 a11 H8).bind fun a12 =>
 (offA a1 1).bind fun a13 =>
 (loadA false 1 a13 H8).bind fun a14 =>
 (offA a1 2).bind fun a15 =>
 (loadA false 1 a15 H8).bind fun a16 =>
 (offA a7 4).bind fun a17 =>
 (loadA false 1 a17 H8).bind fun a18 =>
 (ixA 5 a18 (.int .i64 0) H8).bind fun a19 =>
 (loadA true 5 a19 H8).bind fun a20 =>
 (callD (EV C) n_ref05_Node [a12, a14, a16, a20] H8).bind fun a21 =>
 (offA a7 1).bind fun a22 =>
 (loadA false 1 a22 H8).bind fun a23 =>
 (offA a7 2).bind fun a24 =>
 (loadA false 1 a24 H8).bind fun a25 =>
 (offA a7 4).bind fun a26 =>
 (loadA false 1 a26 H8).bind fun a27 =>
 (ixA 5 a27 (.int .i64 1) H8).bind fun a28 =>
 (loadA true 5 a28 H8).bind fun a29 =>
 (callD (EV C) n_ref05_Node [a21, a23, a25, a29] H8).bind fun a30 =>
 stoK 5 a2 a30 H8 fun H31 E31 =>
 (loadA true 5 a2 H31).bind fun a32 =>
 endB false false n a32 H31 (E31 ++ (E8 ++ (E7 ++ (E2 ++ (E1 ++ []))))))) (List.length H) = some r) : EV C n_ref05_left [x0] H = some r :=
 EV_of_fnK' (fn := Tryd.f110) (by kernel_rfl) (by kernel_rfl) (by kernel_rfl) hh
theorem ref05_right_of {r : R3} {x0 : AV} {H : List AObj} (hh : (fun n => (
 newK x0 H fun a1 H1 E1 =>
 newK (.agg [(.int .i64 0), .nils, .nils, .nils, .nils]) H1 fun a2 H2 E2 =>
 (offA a1 4).bind fun a3 =>
 (loadA false 1 a3 H2).bind fun a4 =>
 (ixA 5 a4 (.int .i64 0) H2).bind fun a5 =>
 (loadA true 5 a5 H2).bind fun a6 =>
 newK (.agg [(.int .i64 0), .nils, .nils, .nils, .nils]) H2 fun a7 H7 E7 =>
 stoK 5 a7 a6 H7 fun H8 E8 =>
 (offA a7 4).bind fun a9 =>
 (loadA false 1 a9 H8).bind fun a10 =>
 (ixA 5 a10 (.int .i64 0) H8).bind fun a11 =>
 (loadA true 5 a11 H8).bind fun a12 =>
 (offA a7 1).bind fun a13 =>
 (loadA false 1 a13 H8).bind fun a14 =>
 (offA a7 2).bind fun a15 =>
 (loadA false 1 a15 H8).bind fun a16 =>
 (offA a7 4).bind fun a17 =>
 (loadA false 1 a17 H8).bind fun a18 =>
 (ixA 5 a18 (.int .i64 1) H8).bind fun a19 =>
 (loadA true 5 a19 H8).bind fun a20 =>
 (offA a1 1).bind fun a21 =>
 (loadA false 1 a21 H8).bind fun a22 =>
 (offA a1 2).bind fun a23 =>
 (loadA false 1 a23 H8).bind fun a24 =>
 (offA a1 4).bind fun a25 =>
 (loadA false 1 a25 H8).bind fun a26 =>
 (ixA 5 a26 (.int .i64 1) H8).bind fun a27 =>
 (loadA true 5 a27 H8).bind fun a28 =>
 (callD (EV C) n_ref05_Node [a20, a22, a24, a28] H8).bind fun a29 =>
 (callD (EV C) n_ref05_Node [a12, a14, a16, a29] H8).bind fun a30 =>
 stoK 5 a2 a30 H8 fun H31 E31 =>
 (loadA true 5 a2 H31).bind fun a32 =>
 endB false false n a32 H31 (E31 ++ (E8 ++ (E7 ++ (E2 ++ (E1 ++ []))))))) (List.length H) = some r) : EV C n_ref05_right [x0] H = some r :=
 EV_of_fnK' (fn := Tryd.f111) (by kernel_rfl) (by kernel_rfl) (by kernel_rfl) hh
theorem ref05_Put_of {r : R3} {x0 x1 x2 : AV} {H : List AObj} (hh : (fun n => (
 newK x0 H fun a1 H1 E1 =>
 newK (.agg [(.int .i64 0), .nils, .nils, .nils, .nils]) H1 fun a2 H2 E2 =>
 (offA a1 4).bind fun a3 =>
 (loadA false 1 a3 H2).bind fun a4 =>
 (lenV a4 H2).bind fun a5 =>
 (binA .eql (Go.TypeDesc.int Go.IntKind.i64) (cmpT Tryd.prog) true a5 (.int .i64 0)).bind fun a6 =>
 condK a6
 ((fillB (AV.cells (.agg [(.int .i64 0), .nils, .nils, .nils, .nils])) []).bind fun c7 =>
 (fillB (AV.cells (.agg [(.int .i64 0), .nils, .nils, .nils, .nils])) []).bind fun c8 =>
 callK (EV C) false n_ref05_Node [(.agg c7), x1, x2, (.agg c8)] H2 fun a9 H9 E9 =>
 stoK 5 a2 a9 H9 fun H10 E10 =>
 (loadA true 5 a2 H10).bind fun a11 =>
 endB false false n a11 H10 (E10 ++ (E9 ++ (E2 ++ (E1 ++ [])))))
 ((cvL x1 H2).bind fun a12 =>
 (offA a1 1).bind fun a13 =>
 (loadA false 1 a13 H2).bind fun a14 =>
 (cvL a14 H2).bind fun a15 =>
 (binA .eql Go.TypeDesc.string (cmpT Tryd.prog) false a12 a15).bind fun a16 =>
 condK a16
 ((offA a1 4).bind fun a17 =>
 (loadA false 1 a17 H2).bind fun a18 =>
 (ixA 5 a18 (.int .i64 0) H2).bind fun a19 =>
 (loadA true 5 a19 H2).bind fun a20 =>
 (offA a1 4).bind fun a21 =>
 (loadA false 1 a21 H2).bind fun a22 =>
 (ixA 5 a22 (.int .i64 1) H2).bind fun a23 =>
 (loadA true 5 a23 H2).bind fun a24 =>
 (callD (EV C) n_ref05_Node [a20, x1, x2, a24] H2).bind fun a25 =>
 stoK 5 a2 a25 H2 fun H26 E26 =>
 (loadA true 5 a2 H26).bind fun a27 =>
 endB false false n a27 H26 (E26 ++ (E2 ++ (E1 ++ []))))
 ((cvL x1 H2).bind fun a28 =>
 (offA a1 1).bind fun a29 =>
 (loadA false 1 a29 H2).bind fun a30 =>
 (cvL a30 H2).bind fun a31 =>
 (binA .lss Go.TypeDesc.string (cmpT Tryd.prog) false a28 a31).bind fun a32 =>
 condK a32
 ((offA a1 4).bind fun a33 =>
 (loadA false 1 a33 H2).bind fun a34 =>
 (ixA 5 a34 (.int .i64 0) H2).bind fun a35 =>
 (loadA true 5 a35 H2).bind fun a36 =>
 (callD (EV C) n_ref05_Put [a36, x1, x2] H2).bind fun a37 =>
 (offA a1 1).bind fun a38 =>
 (loadA false 1 a38 H2).bind fun a39 =>
 (offA a1 2).bind fun a40 =>
 (loadA false 1 a40 H2).bind fun a41 =>
 (offA a1 4).bind fun a42 =>
 (loadA false 1 a42 H2).bind fun a43 =>
 (ixA 5 a43 (.int .i64 1) H2).bind fun a44 =>
 (loadA true 5 a44 H2).bind fun a45 =>
 (callD (EV C) n_ref05_Node [a37, a39, a41, a45] H2).bind fun a46 =>
 (callD (EV C) n_ref05_level [a46] H2).bind fun a47 =>
 stoK 5 a2 a47 H2 fun H48 E48 =>
 (loadA true 5 a2 H48).bind fun a49 =>
 endB false false n a49 H48 (E48 ++ (E2 ++ (E1 ++ []))))
 ((offA a1 4).bind fun a50 =>
 (loadA false 1 a50 H2).bind fun a51 =>
 (ixA 5 a51 (.int .i64 0) H2).bind fun a52 =>
 (loadA true 5 a52 H2).bind fun a53 =>
 (offA a1 1).bind fun a54 =>
 (loadA false 1 a54 H2).bind fun a55 =>
 (offA a1 2).bind fun a56 =>
 (loadA false 1 a56 H2).bind fun a57 =>
 (offA a1 4).bind fun a58 =>
 (loadA false 1 a58 H2).bind fun a59 =>
 (ixA 5 a59 (.int .i64 1) H2).bind fun a60 =>
 (loadA true 5 a60 H2).bind fun a61 =>
 (callD (EV C) n_ref05_Put [a61, x1, x2] H2).bind fun a62 =>
 (callD (EV C) n_ref05_Node [a53, a55, a57, a62] H2).bind fun a63 =>
 (callD (EV C) n_ref05_level [a63] H2).bind fun a64 =>
 stoK 5 a2 a64 H2 fun H65 E65 =>
 (loadA true 5 a2 H65).bind fun a66 =>
 endB false false n a66 H65 (E65 ++ (E2 ++ (E1 ++ [])))))))) (List.length H) = some r) : EV C n_ref05_Put [x0, x1, x2] H = some r :=
 EV_of_fnK' (fn := Tryd.f75) (by kernel_rfl) (by kernel_rfl) (by kernel_rfl) hh
noncomputable def ref05_Grown_J3 (n : Nat) (t0 t2 t3 t4 : AV) (H : List AObj) (E : List Nat) : Option R3 :=
 loopK Tryd.prog C.G (EV C) (C.hint 44) Tryd.f44 (cAt (bodyOf Tryd.f44) [1, 1, 0, 1, 0, 0]) (kAt Tryd.prog C.G (EV C) (C.hint 44) Tryd.f44 (bodyOf Tryd.f44) [1, 1, 0, 1, 0] [] (endK Tryd.prog (C.hint 44) Tryd.f44 n))
 ⟨pat 45 [(0, t0), (2, t2), (3, t3), (4, t4)], H, E⟩
theorem ref05_Grown_J3_of {r : R3} {n : Nat} {t0 t2 t3 t4 : AV} {H : List AObj} {E : List Nat} (hh : (
 (lenV t0 H).bind fun a1 =>
 (binA .lss (Go.TypeDesc.int Go.IntKind.i64) (cmpT Tryd.prog) false t4 a1).bind fun a2 =>
 splitK a2
 ((binA .lss (Go.TypeDesc.int Go.IntKind.i64) (cmpT Tryd.prog) true t4 (.int .i64 60)).bind fun a3 =>
 condK a3
 ((ixA 2 t0 t4 H).bind fun a4 =>
 (offA a4 0).bind fun a5 =>
 (loadA false 1 a5 H).bind fun a6 =>
 (lenV a6 H).bind fun a7 =>
 (binA .leq (Go.TypeDesc.int Go.IntKind.i64) (cmpT Tryd.prog) true a7 (.int .i64 80)).bind fun a8 =>
 splitK a8
 ((ixA 2 t0 t4 H).bind fun a9 =>
 (offA a9 1).bind fun a10 =>
 (loadA false 1 a10 H).bind fun a11 =>
 (lenV a11 H).bind fun a12 =>
 (binA .leq (Go.TypeDesc.int Go.IntKind.i64) (cmpT Tryd.prog) true a12 (.int .i64 1024)).bind fun a13 =>
 condK a13
 ((loadA true 5 t3 H).bind fun a14 =>
 (ixA 2 t0 t4 H).bind fun a15 =>
 (offA a15 0).bind fun a16 =>
 (loadA false 1 a16 H).bind fun a17 =>
 (ixA 2 t0 t4 H).bind fun a18 =>
 (offA a18 1).bind fun a19 =>
 (loadA false 1 a19 H).bind fun a20 =>
 (callD (EV C) n_ref05_Put [a14, a17, a20] H).bind fun a21 =>
 stoK 5 t3 a21 H fun H22 E22 =>
 (binA .add (Go.TypeDesc.int Go.IntKind.i64) (cmpT Tryd.prog) true t4 (.int .i64 1)).bind fun a23 =>
 ref05_Grown_J3 n t0 t2 t3 a23 H22 ((E22 ++ []) ++ E))
 ((binA .add (Go.TypeDesc.int Go.IntKind.i64) (cmpT Tryd.prog) true t4 (.int .i64 1)).bind fun a24 =>
 ref05_Grown_J3 n t0 t2 t3 a24 H E))
 ((binA .add (Go.TypeDesc.int Go.IntKind.i64) (cmpT Tryd.prog) true t4 (.int .i64 1)).bind fun a25 =>
 ref05_Grown_J3 n t0 t2 t3 a25 H E))
 ((loadA true 5 t3 H).bind fun a26 =>
 stoK 5 t2 a26 H fun H27 E27 =>
 (loadA true 5 t2 H27).bind fun a28 =>
 endB false false n a28 H27 (E27 ++ E)))
 ((loadA true 5 t3 H).bind fun a29 =>
 stoK 5 t2 a29 H fun H30 E30 =>
 (loadA true 5 t2 H30).bind fun a31 =>
 endB false false n a31 H30 (E30 ++ E))) = some r) : ref05_Grown_J3 n t0 t2 t3 t4 H E = some r :=
 loop_step' (by kernel_rfl) hh
theorem ref05_Grown_of {r : R3} {x0 : AV} {H : List AObj} (hh : (fun n => (
 newK (.agg [(.int .i64 0), .nils, .nils, .nils, .nils]) H fun a1 H1 E1 =>
 (fillB (AV.cells (.agg [(.int .i64 0), .nils, .nils, .nils, .nils])) []).bind fun c2 =>
 newK (.agg [(.int .i64 0), .nils, .nils, .nils, .nils]) H1 fun a3 H3 E3 =>
 stoK 5 a3 (.agg c2) H3 fun H4 E4 =>
 ref05_Grown_J3 n x0 a1 a3 (.int .i64 0) H4 (E4 ++ (E3 ++ (E1 ++ []))))) (List.length H) = some r) : EV C n_ref05_Grown [x0] H = some r :=
 EV_of_fnK' (fn := Tryd.f44) (by kernel_rfl) (by kernel_rfl) (by kernel_rfl) hh
theorem law07_up_of {r : R3} {H : List AObj} (hh : (fun n => (
 rawK 1 1 (.int .u8 0) [(0, (.int .u8 97))] H fun a1 H1 E1 =>
 (cvR a1 H1).bind fun a2 =>
 (fillB (AV.cells (.agg [.nils, .nils])) [(0, 1, a2)]).bind fun c3 =>
 litK 2 1 (.agg [.nils, .nils]) [(0, (.agg c3))] H1 fun a4 H4 E4 =>
 callK (EV C) false n_ref05_Grown [a4] H4 fun a5 H5 E5 =>
 newK (.agg [(.int .i64 0), .nils, .nils, .nils, .nils]) H5 fun a6 H6 E6 =>
 stoK 5 a6 a5 H6 fun H7 E7 =>
 (loadA true 5 a6 H7).bind fun a8 =>
 (fillB (AV.cells (.agg [.nils, .nils, (.bool false)])) [(2, 1, (.bool true))]).bind fun c9 =>
 callK (EV C) false n_proof_Prove [(.int .i64 1), a8, (.agg c9)] H7 fun a10 H10 E10 =>
 (extA a10 0).bind fun a11 =>
 (extA a10 1).bind fun a12 =>
 newK (.agg [(.int .i64 0), .nils, .nils, .nils, .nils]) H10 fun a13 H13 E13 =>
 stoK 5 a13 a11 H13 fun H14 E14 =>
 (loadA true 5 a6 H14).bind fun a15 =>
 (fillB (AV.cells (.agg [.nils, .nils, (.bool false)])) []).bind fun c16 =>
 callK (EV C) false n_proof_Prove [(.int .i64 0), a15, (.agg c16)] H14 fun a17 H17 E17 =>
 (extA a17 0).bind fun a18 =>
 (extA a17 1).bind fun a19 =>
 newK (.agg [(.int .i64 0), .nils, .nils, .nils, .nils]) H17 fun a20 H20 E20 =>
 stoK 5 a20 a18 H20 fun H21 E21 =>
 (binA .eql (Go.TypeDesc.interface #[("Error", 138)]) (cmpT Tryd.prog) true a12 .nili).bind fun a22 =>
 splitK a22
 ((offA a13 0).bind fun a23 =>
 (loadA false 1 a23 H21).bind fun a24 =>
 (binA .eql (Go.TypeDesc.int Go.IntKind.i64) (cmpT Tryd.prog) true a24 (.int .i64 1)).bind fun a25 =>
 splitK a25
 ((offA a13 1).bind fun a26 =>
 (loadA false 1 a26 H21).bind fun a27 =>
 (cvL a27 H21).bind fun a28 =>
 (binA .eql Go.TypeDesc.string (cmpT Tryd.prog) true a28 (.str { data := #[97] })).bind fun a29 =>
 splitK a29
 ((binA .eql (Go.TypeDesc.interface #[("Error", 138)]) (cmpT Tryd.prog) false a19 (.ifc t_api_Code (.int .i64 1))).bind fun a30 =>
 endB false false n a30 H21 (E21 ++ (E20 ++ (E17 ++ (E14 ++ (E13 ++ (E10 ++ (E7 ++ (E6 ++ (E5 ++ (E4 ++ (E1 ++ []))))))))))))
 (endB false false n (.bool false) H21 (E21 ++ (E20 ++ (E17 ++ (E14 ++ (E13 ++ (E10 ++ (E7 ++ (E6 ++ (E5 ++ (E4 ++ (E1 ++ [])))))))))))))
 (endB false false n (.bool false) H21 (E21 ++ (E20 ++ (E17 ++ (E14 ++ (E13 ++ (E10 ++ (E7 ++ (E6 ++ (E5 ++ (E4 ++ (E1 ++ [])))))))))))))
 (endB false false n (.bool false) H21 (E21 ++ (E20 ++ (E17 ++ (E14 ++ (E13 ++ (E10 ++ (E7 ++ (E6 ++ (E5 ++ (E4 ++ (E1 ++ [])))))))))))))) (List.length H) = some r) : EV C n_law07_up [] H = some r :=
 EV_of_fnK' (fn := Tryd.f39) (by kernel_rfl) (by kernel_rfl) (by kernel_rfl) hh
end Go.Pm
