/- A part of the proof: what the functions of the program answer, as plain lists and numbers. -/
import Derived.Test.YtclfnechcblmoaaDoorP9
namespace Go.Pm
open Go.Proofs
set_option linter.unusedVariables false
set_option maxRecDepth 100000
theorem proof_prover_show_l_of {r : R3} {x0 x1 : AV} {H : List AObj} (hh : (fun n => (
 newK x0 H fun a1 H1 E1 =>
 newK x1 H1 fun a2 H2 E2 =>
 newK (.agg [(.int .i64 0), .nils, .nils, .nils, .nils]) H2 fun a3 H3 E3 =>
 (offA a2 4).bind fun a4 =>
 (loadA false 1 a4 H3).bind fun a5 =>
 (lenV a5 H3).bind fun a6 =>
 (binA .eql (Go.TypeDesc.int Go.IntKind.i64) (cmpT Tryd.prog) true a6 (.int .i64 0)).bind fun a7 =>
 condK a7
 ((fillB (AV.cells (.agg [(.int .i64 0), .nils, .nils, .nils, .nils])) []).bind fun c8 =>
 stoK 5 a3 (.agg c8) H3 fun H9 E9 =>
 (loadA true 5 a3 H9).bind fun a10 =>
 endB false false n a10 H9 (E9 ++ (E3 ++ (E2 ++ (E1 ++ [])))))
 ((offA a2 1).bind fun a11 =>
 (loadA false 1 a11 H3).bind fun a12 =>
 callK (EV C) false n_Clone_byte [a12] H3 fun a13 H13 E13 =>
 (fillB (AV.cells (.agg [(.int .i64 0), .nils, .nils, .nils, .nils])) [(0, 1, (.int .i64 1)), (1, 1, a13)]).bind fun c14 =>
 newK (.agg [(.int .i64 0), .nils, .nils, .nils, .nils]) H13 fun a15 H15 E15 =>
 stoK 5 a15 (.agg c14) H15 fun H16 E16 =>
 (offA a2 4).bind fun a17 =>
 (loadA false 1 a17 H16).bind fun a18 =>
 (ixA 5 a18 (.int .i64 0) H16).bind fun a19 =>
 (loadA true 5 a19 H16).bind fun a20 =>
 (offA a2 4).bind fun a21 =>
 (loadA false 1 a21 H16).bind fun a22 =>
 (ixA 5 a22 (.int .i64 1) H16).bind fun a23 =>
 (loadA true 5 a23 H16).bind fun a24 =>
 sizK 5 a20
 (newK a20 H16 fun a25 H25 E25 =>
 drawK (((loadA false 1 a21 H25).bind fun a26 =>
 some a26) = some a22)
 (drawK (((ixA 5 a22 (.int .i64 1) H25).bind fun a27 =>
 some a27) = some a23)
 (drawK (((loadA true 5 a23 H25).bind fun a28 =>
 some a28) = some a24)
 (sizK 5 a24
 (newK a24 H25 fun a29 H29 E29 =>
 (offA a1 1).bind fun a30 =>
 (loadA true 3 a30 H29).bind fun a31 =>
 (offA a2 1).bind fun a32 =>
 (loadA false 1 a32 H29).bind fun a33 =>
 calXK (EV C) 12 n_scan_In [a31, a33] H29 fun a34 H34 E34 =>
 condK a34
 ((offA a2 2).bind fun a35 =>
 (loadA false 1 a35 H34).bind fun a36 =>
 callK (EV C) false n_Clone_byte [a36] H34 fun a37 H37 E37 =>
 (offA a15 2).bind fun a38 =>
 stoK 1 a38 a37 H37 fun H39 E39 =>
 (loadA true 4 a1 H39).bind fun a40 =>
 (loadA true 5 a25 H39).bind fun a41 =>
 calXK (EV C) 13 n_proof_prover_show [a40, a41] H39 fun a42 H42 E42 =>
 (loadA true 4 a1 H42).bind fun a43 =>
 (loadA true 5 a29 H42).bind fun a44 =>
 calXK (EV C) 13 n_proof_prover_show [a43, a44] H42 fun a45 H45 E45 =>
 (litD 5 2 (.agg [(.int .i64 0), .nils, .nils, .nils, .nils]) [(0, a42), (1, a45)] H45).bind fun a46 =>
 (offA a15 4).bind fun a47 =>
 stoK 1 a47 a46 H45 fun H48 E48 =>
 (loadA true 5 a15 H48).bind fun a49 =>
 stoK 5 a3 a49 H48 fun H50 E50 =>
 (loadA true 5 a3 H50).bind fun a51 =>
 endB false false n a51 H50 (E50 ++ (E48 ++ (E45 ++ (E42 ++ (E39 ++ (E37 ++ (E34 ++ (E29 ++ (E25 ++ (E16 ++ (E15 ++ (E13 ++ (E3 ++ (E2 ++ (E1 ++ []))))))))))))))))
 ((offA a15 0).bind fun a52 =>
 stoK 1 a52 (.int .i64 2) H34 fun H53 E53 =>
 (offA a1 0).bind fun a54 =>
 (loadA false 1 a54 H53).bind fun a55 =>
 (offA a2 2).bind fun a56 =>
 (loadA false 1 a56 H53).bind fun a57 =>
 (callD (EV C) n_digest_Value [a57] H53).bind fun a58 =>
 (callD (EV C) n_digest_Of [a55, a58] H53).bind fun a59 =>
 (extA a59 0).bind fun a60 =>
 (extA a59 1).bind fun a61 =>
 (binA .neq (Go.TypeDesc.interface #[("Error", 138)]) (cmpT Tryd.prog) true a61 .nili).bind fun a62 =>
 condK a62
 ((fillB (AV.cells (.agg [(.int .i64 0), .nils, .nils, .nils, .nils])) []).bind fun c63 =>
 stoK 5 a3 (.agg c63) H53 fun H64 E64 =>
 (loadA true 5 a3 H64).bind fun a65 =>
 endB false false n a65 H64 (E64 ++ (E53 ++ (E34 ++ (E29 ++ (E25 ++ (E16 ++ (E15 ++ (E13 ++ (E3 ++ (E2 ++ (E1 ++ []))))))))))))
 ((offA a15 3).bind fun a66 =>
 stoK 1 a66 a60 H53 fun H67 E67 =>
 (offA a2 1).bind fun a68 =>
 (loadA false 1 a68 H67).bind fun a69 =>
 (offA a1 1).bind fun a70 =>
 (offA a70 0).bind fun a71 =>
 (loadA false 1 a71 H67).bind fun a72 =>
 calXK (EV C) 12 n_bytes_Compare [a69, a72] H67 fun a73 H73 E73 =>
 (binA .lss (Go.TypeDesc.int Go.IntKind.i64) (cmpT Tryd.prog) true a73 (.int .i64 0)).bind fun a74 =>
 condK a74
 ((loadA true 4 a1 H73).bind fun a75 =>
 (loadA true 5 a25 H73).bind fun a76 =>
 calXK (EV C) 13 n_proof_prover_cut [a75, a76] H73 fun a77 H77 E77 =>
 (loadA true 4 a1 H77).bind fun a78 =>
 (loadA true 5 a29 H77).bind fun a79 =>
 calXK (EV C) 13 n_proof_prover_show [a78, a79] H77 fun a80 H80 E80 =>
 (litD 5 2 (.agg [(.int .i64 0), .nils, .nils, .nils, .nils]) [(0, a77), (1, a80)] H80).bind fun a81 =>
 (offA a15 4).bind fun a82 =>
 stoK 1 a82 a81 H80 fun H83 E83 =>
 (loadA true 5 a15 H83).bind fun a84 =>
 stoK 5 a3 a84 H83 fun H85 E85 =>
 (loadA true 5 a3 H85).bind fun a86 =>
 endB false false n a86 H85 (E85 ++ (E83 ++ (E80 ++ (E77 ++ (E73 ++ (E67 ++ (E53 ++ (E34 ++ (E29 ++ (E25 ++ (E16 ++ (E15 ++ (E13 ++ (E3 ++ (E2 ++ (E1 ++ [])))))))))))))))))
 ((loadA true 4 a1 H73).bind fun a87 =>
 (loadA true 5 a25 H73).bind fun a88 =>
 calXK (EV C) 13 n_proof_prover_show [a87, a88] H73 fun a89 H89 E89 =>
 (loadA true 4 a1 H89).bind fun a90 =>
 (loadA true 5 a29 H89).bind fun a91 =>
 calXK (EV C) 13 n_proof_prover_cut [a90, a91] H89 fun a92 H92 E92 =>
 (litD 5 2 (.agg [(.int .i64 0), .nils, .nils, .nils, .nils]) [(0, a89), (1, a92)] H92).bind fun a93 =>
 (offA a15 4).bind fun a94 =>
 stoK 1 a94 a93 H92 fun H95 E95 =>
 (loadA true 5 a15 H95).bind fun a96 =>
 stoK 5 a3 a96 H95 fun H97 E97 =>
 (loadA true 5 a3 H97).bind fun a98 =>
 endB false false n a98 H97 (E97 ++ (E95 ++ (E92 ++ (E89 ++ (E73 ++ (E67 ++ (E53 ++ (E34 ++ (E29 ++ (E25 ++ (E16 ++ (E15 ++ (E13 ++ (E3 ++ (E2 ++ (E1 ++ []))))))))))))))))))))))))))) (List.length H) = some r) : EV C n_proof_prover_show_l [x0, x1] H = some r :=
 EV_of_fnK' (fn := Tryd.f71) (by kernel_rfl) (by kernel_rfl) (by kernel_rfl) hh
theorem proof_prover_cut_l_of {r : R3} {x0 x1 : AV} {H : List AObj} (hh : (fun n => (
 newK x0 H fun a1 H1 E1 =>
 newK x1 H1 fun a2 H2 E2 =>
 newK (.agg [(.int .i64 0), .nils, .nils, .nils, .nils]) H2 fun a3 H3 E3 =>
 (offA a2 4).bind fun a4 =>
 (loadA false 1 a4 H3).bind fun a5 =>
 (lenV a5 H3).bind fun a6 =>
 (binA .eql (Go.TypeDesc.int Go.IntKind.i64) (cmpT Tryd.prog) true a6 (.int .i64 0)).bind fun a7 =>
 condK a7
 ((fillB (AV.cells (.agg [(.int .i64 0), .nils, .nils, .nils, .nils])) []).bind fun c8 =>
 stoK 5 a3 (.agg c8) H3 fun H9 E9 =>
 (loadA true 5 a3 H9).bind fun a10 =>
 endB false false n a10 H9 (E9 ++ (E3 ++ (E2 ++ (E1 ++ [])))))
 ((offA a1 0).bind fun a11 =>
 (loadA false 1 a11 H3).bind fun a12 =>
 (loadA true 5 a2 H3).bind fun a13 =>
 calXK (EV C) 13 n_tree_Digest [a12, a13] H3 fun a14 H14 E14 =>
 (extA a14 0).bind fun a15 =>
 (extA a14 1).bind fun a16 =>
 (binA .neq (Go.TypeDesc.interface #[("Error", 138)]) (cmpT Tryd.prog) true a16 .nili).bind fun a17 =>
 condK a17
 ((fillB (AV.cells (.agg [(.int .i64 0), .nils, .nils, .nils, .nils])) []).bind fun c18 =>
 stoK 5 a3 (.agg c18) H14 fun H19 E19 =>
 (loadA true 5 a3 H19).bind fun a20 =>
 endB false false n a20 H19 (E19 ++ (E14 ++ (E3 ++ (E2 ++ (E1 ++ []))))))
 ((fillB (AV.cells (.agg [(.int .i64 0), .nils, .nils, .nils, .nils])) [(0, 1, (.int .i64 3)), (3, 1, a15)]).bind fun c21 =>
 stoK 5 a3 (.agg c21) H14 fun H22 E22 =>
 (loadA true 5 a3 H22).bind fun a23 =>
 endB false false n a23 H22 (E22 ++ (E14 ++ (E3 ++ (E2 ++ (E1 ++ []))))))))) (List.length H) = some r) : EV C n_proof_prover_cut_l [x0, x1] H = some r :=
 EV_of_fnK' (fn := Tryd.f94) (by kernel_rfl) (by kernel_rfl) (by kernel_rfl) hh
theorem proof_Prove_l_of {r : R3} {x0 x1 x2 : AV} {H : List AObj} (hh : (fun n => (
 newK x1 H fun a1 H1 E1 =>
 newK x2 H1 fun a2 H2 E2 =>
 newK (.agg [(.int .i64 0), .nils, .nils, .nils, .nils]) H2 fun a3 H3 E3 =>
 (binA .lss (Go.TypeDesc.int Go.IntKind.i64) (cmpT Tryd.prog) true x0 (.int .i64 1)).bind fun a4 =>
 splitK a4
 ((fillB (AV.cells (.agg [(.int .i64 0), .nils, .nils, .nils, .nils])) []).bind fun c5 =>
 stoK 5 a3 (.agg c5) H3 fun H6 E6 =>
 (loadA true 5 a3 H6).bind fun a7 =>
 endB false false n (.tup [a7, (.ifc t_api_Code (.int .i64 1))]) H6 (E6 ++ (E3 ++ (E2 ++ (E1 ++ [])))))
 ((binA .gtr (Go.TypeDesc.int Go.IntKind.i64) (cmpT Tryd.prog) true x0 (.int .i64 32)).bind fun a8 =>
 condK a8
 ((fillB (AV.cells (.agg [(.int .i64 0), .nils, .nils, .nils, .nils])) []).bind fun c9 =>
 stoK 5 a3 (.agg c9) H3 fun H10 E10 =>
 (loadA true 5 a3 H10).bind fun a11 =>
 endB false false n (.tup [a11, (.ifc t_api_Code (.int .i64 1))]) H10 (E10 ++ (E3 ++ (E2 ++ (E1 ++ [])))))
 ((loadA true 5 a1 H3).bind fun a12 =>
 calXK (EV C) 12 n_avl_Is [a12] H3 fun a13 H13 E13 =>
 (unA .not a13).bind fun a14 =>
 condK a14
 ((fillB (AV.cells (.agg [(.int .i64 0), .nils, .nils, .nils, .nils])) []).bind fun c15 =>
 stoK 5 a3 (.agg c15) H13 fun H16 E16 =>
 (loadA true 5 a3 H16).bind fun a17 =>
 endB false false n (.tup [a17, (.ifc t_api_Code (.int .i64 3))]) H16 (E16 ++ (E13 ++ (E3 ++ (E2 ++ (E1 ++ []))))))
 ((loadA true 3 a2 H13).bind fun a18 =>
 (fillB (AV.cells (.agg [(.int .i64 0), .nils, .nils, (.bool false)])) [(0, 1, x0), (1, 3, a18)]).bind fun c19 =>
 (loadA true 5 a1 H13).bind fun a20 =>
 calXK (EV C) 13 n_proof_prover_show [(.agg c19), a20] H13 fun a21 H21 E21 =>
 stoK 5 a3 a21 H21 fun H22 E22 =>
 (loadA true 5 a3 H22).bind fun a23 =>
 endB false false n (.tup [a23, .nili]) H22 (E22 ++ (E21 ++ (E13 ++ (E3 ++ (E2 ++ (E1 ++ []))))))))))) (List.length H) = some r) : EV C n_proof_Prove_l [x0, x1, x2] H = some r :=
 EV_of_fnK' (fn := Tryd.f41) (by kernel_rfl) (by kernel_rfl) (by kernel_rfl) hh
end Go.Pm
