/- A part of the proof: what the functions of the program answer, as plain lists and numbers. -/
import Derived.Test.YtclfnechcblmoaaDoorP9
namespace Go.Pm
open Go.Proofs
set_option linter.unusedVariables false
set_option maxRecDepth 100000
theorem tree_deep_of {r : R3} {x0 x1 : AV} {H : List AObj} (hh : (fun n => (
 newK x0 H fun a1 H1 E1 =>
 newK x1 H1 fun a2 H2 E2 =>
 (offA a1 0).bind fun a3 =>
 (loadA false 1 a3 H2).bind fun a4 =>
 (binA .eql (Go.TypeDesc.int Go.IntKind.i64) (cmpT Tryd.prog) true a4 (.int .i64 1)).bind fun a5 =>
 splitK a5
 ((loadA false 1 a2 H2).bind fun a6 =>
 (binA .lss (Go.TypeDesc.int Go.IntKind.i64) (cmpT Tryd.prog) true a6 (.int .i64 1)).bind fun a7 =>
 condK a7
 (endB false false n (.bool true) H2 (E2 ++ (E1 ++ [])))
 ((offA a1 4).bind fun a8 =>
 (loadA false 1 a8 H2).bind fun a9 =>
 callK (EV C) false n_ContainsFunc_api_Tree [a9, (.clo n_tree_deep_1 [] [a2])] H2 fun a10 H10 E10 =>
 endB false false n a10 H10 (E10 ++ (E2 ++ (E1 ++ [])))))
 ((offA a1 0).bind fun a11 =>
 (loadA false 1 a11 H2).bind fun a12 =>
 (binA .eql (Go.TypeDesc.int Go.IntKind.i64) (cmpT Tryd.prog) true a12 (.int .i64 2)).bind fun a13 =>
 splitK a13
 ((loadA false 1 a2 H2).bind fun a14 =>
 (binA .lss (Go.TypeDesc.int Go.IntKind.i64) (cmpT Tryd.prog) true a14 (.int .i64 1)).bind fun a15 =>
 condK a15
 (endB false false n (.bool true) H2 (E2 ++ (E1 ++ [])))
 ((offA a1 4).bind fun a16 =>
 (loadA false 1 a16 H2).bind fun a17 =>
 callK (EV C) false n_ContainsFunc_api_Tree [a17, (.clo n_tree_deep_1 [] [a2])] H2 fun a18 H18 E18 =>
 endB false false n a18 H18 (E18 ++ (E2 ++ (E1 ++ [])))))
 ((offA a1 4).bind fun a19 =>
 (loadA false 1 a19 H2).bind fun a20 =>
 (lenV a20 H2).bind fun a21 =>
 (binA .gtr (Go.TypeDesc.int Go.IntKind.i64) (cmpT Tryd.prog) true a21 (.int .i64 0)).bind fun a22 =>
 splitK a22
 ((loadA false 1 a2 H2).bind fun a23 =>
 (binA .lss (Go.TypeDesc.int Go.IntKind.i64) (cmpT Tryd.prog) true a23 (.int .i64 1)).bind fun a24 =>
 condK a24
 (endB false false n (.bool true) H2 (E2 ++ (E1 ++ [])))
 ((offA a1 4).bind fun a25 =>
 (loadA false 1 a25 H2).bind fun a26 =>
 callK (EV C) false n_ContainsFunc_api_Tree [a26, (.clo n_tree_deep_1 [] [a2])] H2 fun a27 H27 E27 =>
 endB false false n a27 H27 (E27 ++ (E2 ++ (E1 ++ [])))))
 ((offA a1 4).bind fun a28 =>
 (loadA false 1 a28 H2).bind fun a29 =>
 callK (EV C) false n_ContainsFunc_api_Tree [a29, (.clo n_tree_deep_1 [] [a2])] H2 fun a30 H30 E30 =>
 endB false false n a30 H30 (E30 ++ (E2 ++ (E1 ++ [])))))))) (List.length H) = some r) : EV C n_tree_deep [x0, x1] H = some r :=
 EV_of_fnK' (fn := Tryd.f80) (by kernel_rfl) (by kernel_rfl) (by kernel_rfl) hh
theorem tree_deep_1_of {r : R3} {x0 x1 : AV} {H : List AObj} (hh : (fun n => (
 newK x0 H fun a1 H1 E1 =>
 (loadA true 5 a1 H1).bind fun a2 =>
 (loadA false 1 x1 H1).bind fun a3 =>
 (binA .sub (Go.TypeDesc.int Go.IntKind.i64) (cmpT Tryd.prog) true a3 (.int .i64 1)).bind fun a4 =>
 callK (EV C) false n_tree_deep [a2, a4] H1 fun a5 H5 E5 =>
 endB false false n a5 H5 (E5 ++ (E1 ++ [])))) (List.length H) = some r) : EV C n_tree_deep_1 [x0, x1] H = some r :=
 EV_of_fnK' (fn := Tryd.f99) (by kernel_rfl) (by kernel_rfl) (by kernel_rfl) hh
theorem tree_formed_of {r : R3} {x0 : AV} {H : List AObj} (hh : (fun n => (
 newK x0 H fun a1 H1 E1 =>
 (offA a1 0).bind fun a2 =>
 (loadA false 1 a2 H1).bind fun a3 =>
 (binA .eql (Go.TypeDesc.int Go.IntKind.i64) (cmpT Tryd.prog) true a3 (.int .i64 0)).bind fun a4 =>
 condK a4
 ((offA a1 1).bind fun a5 =>
 (loadA false 1 a5 H1).bind fun a6 =>
 (lenV a6 H1).bind fun a7 =>
 (offA a1 2).bind fun a8 =>
 (loadA false 1 a8 H1).bind fun a9 =>
 (lenV a9 H1).bind fun a10 =>
 (binA .add (Go.TypeDesc.int Go.IntKind.i64) (cmpT Tryd.prog) false a7 a10).bind fun a11 =>
 (offA a1 3).bind fun a12 =>
 (loadA false 1 a12 H1).bind fun a13 =>
 (lenV a13 H1).bind fun a14 =>
 (binA .add (Go.TypeDesc.int Go.IntKind.i64) (cmpT Tryd.prog) false a11 a14).bind fun a15 =>
 (offA a1 4).bind fun a16 =>
 (loadA false 1 a16 H1).bind fun a17 =>
 (lenV a17 H1).bind fun a18 =>
 (binA .add (Go.TypeDesc.int Go.IntKind.i64) (cmpT Tryd.prog) false a15 a18).bind fun a19 =>
 (binA .eql (Go.TypeDesc.int Go.IntKind.i64) (cmpT Tryd.prog) true a19 (.int .i64 0)).bind fun a20 =>
 splitK a20
 ((offA a1 4).bind fun a21 =>
 (loadA false 1 a21 H1).bind fun a22 =>
 callK (EV C) false n_ContainsFunc_api_Tree [a22, (.clo n_tree_formed_1 [] [])] H1 fun a23 H23 E23 =>
 (unA .not a23).bind fun a24 =>
 endB false false n a24 H23 (E23 ++ (E1 ++ [])))
 (endB false false n (.bool false) H1 (E1 ++ [])))
 ((binA .eql (Go.TypeDesc.int Go.IntKind.i64) (cmpT Tryd.prog) true a3 (.int .i64 1)).bind fun a25 =>
 condK a25
 ((offA a1 1).bind fun a26 =>
 (loadA false 1 a26 H1).bind fun a27 =>
 (lenV a27 H1).bind fun a28 =>
 (binA .leq (Go.TypeDesc.int Go.IntKind.i64) (cmpT Tryd.prog) true a28 (.int .i64 80)).bind fun a29 =>
 splitK a29
 ((offA a1 2).bind fun a30 =>
 (loadA false 1 a30 H1).bind fun a31 =>
 (lenV a31 H1).bind fun a32 =>
 (binA .leq (Go.TypeDesc.int Go.IntKind.i64) (cmpT Tryd.prog) true a32 (.int .i64 1024)).bind fun a33 =>
 splitK a33
 ((offA a1 3).bind fun a34 =>
 (loadA false 1 a34 H1).bind fun a35 =>
 (lenV a35 H1).bind fun a36 =>
 (binA .eql (Go.TypeDesc.int Go.IntKind.i64) (cmpT Tryd.prog) true a36 (.int .i64 0)).bind fun a37 =>
 splitK a37
 ((offA a1 4).bind fun a38 =>
 (loadA false 1 a38 H1).bind fun a39 =>
 (lenV a39 H1).bind fun a40 =>
 (binA .eql (Go.TypeDesc.int Go.IntKind.i64) (cmpT Tryd.prog) true a40 (.int .i64 2)).bind fun a41 =>
 splitK a41
 ((offA a1 4).bind fun a42 =>
 (loadA false 1 a42 H1).bind fun a43 =>
 callK (EV C) false n_ContainsFunc_api_Tree [a43, (.clo n_tree_formed_1 [] [])] H1 fun a44 H44 E44 =>
 (unA .not a44).bind fun a45 =>
 endB false false n a45 H44 (E44 ++ (E1 ++ [])))
 (endB false false n (.bool false) H1 (E1 ++ [])))
 (endB false false n (.bool false) H1 (E1 ++ [])))
 (endB false false n (.bool false) H1 (E1 ++ [])))
 (endB false false n (.bool false) H1 (E1 ++ [])))
 ((binA .eql (Go.TypeDesc.int Go.IntKind.i64) (cmpT Tryd.prog) true a3 (.int .i64 2)).bind fun a46 =>
 condK a46
 ((offA a1 1).bind fun a47 =>
 (loadA false 1 a47 H1).bind fun a48 =>
 (lenV a48 H1).bind fun a49 =>
 (binA .leq (Go.TypeDesc.int Go.IntKind.i64) (cmpT Tryd.prog) true a49 (.int .i64 80)).bind fun a50 =>
 splitK a50
 ((offA a1 2).bind fun a51 =>
 (loadA false 1 a51 H1).bind fun a52 =>
 (lenV a52 H1).bind fun a53 =>
 (binA .eql (Go.TypeDesc.int Go.IntKind.i64) (cmpT Tryd.prog) true a53 (.int .i64 0)).bind fun a54 =>
 splitK a54
 ((offA a1 4).bind fun a55 =>
 (loadA false 1 a55 H1).bind fun a56 =>
 (lenV a56 H1).bind fun a57 =>
 (binA .eql (Go.TypeDesc.int Go.IntKind.i64) (cmpT Tryd.prog) true a57 (.int .i64 2)).bind fun a58 =>
 splitK a58
 ((offA a1 4).bind fun a59 =>
 (loadA false 1 a59 H1).bind fun a60 =>
 callK (EV C) false n_ContainsFunc_api_Tree [a60, (.clo n_tree_formed_1 [] [])] H1 fun a61 H61 E61 =>
 (unA .not a61).bind fun a62 =>
 endB false false n a62 H61 (E61 ++ (E1 ++ [])))
 (endB false false n (.bool false) H1 (E1 ++ [])))
 (endB false false n (.bool false) H1 (E1 ++ [])))
 (endB false false n (.bool false) H1 (E1 ++ [])))
 ((binA .eql (Go.TypeDesc.int Go.IntKind.i64) (cmpT Tryd.prog) true a3 (.int .i64 3)).bind fun a63 =>
 condK a63
 ((offA a1 1).bind fun a64 =>
 (loadA false 1 a64 H1).bind fun a65 =>
 (lenV a65 H1).bind fun a66 =>
 (offA a1 2).bind fun a67 =>
 (loadA false 1 a67 H1).bind fun a68 =>
 (lenV a68 H1).bind fun a69 =>
 (binA .add (Go.TypeDesc.int Go.IntKind.i64) (cmpT Tryd.prog) false a66 a69).bind fun a70 =>
 (offA a1 4).bind fun a71 =>
 (loadA false 1 a71 H1).bind fun a72 =>
 (lenV a72 H1).bind fun a73 =>
 (binA .add (Go.TypeDesc.int Go.IntKind.i64) (cmpT Tryd.prog) false a70 a73).bind fun a74 =>
 (binA .eql (Go.TypeDesc.int Go.IntKind.i64) (cmpT Tryd.prog) true a74 (.int .i64 0)).bind fun a75 =>
 splitK a75
 ((offA a1 4).bind fun a76 =>
 (loadA false 1 a76 H1).bind fun a77 =>
 callK (EV C) false n_ContainsFunc_api_Tree [a77, (.clo n_tree_formed_1 [] [])] H1 fun a78 H78 E78 =>
 (unA .not a78).bind fun a79 =>
 endB false false n a79 H78 (E78 ++ (E1 ++ [])))
 (endB false false n (.bool false) H1 (E1 ++ [])))
 (endB false false n (.bool false) H1 (E1 ++ []))))))) (List.length H) = some r) : EV C n_tree_formed [x0] H = some r :=
 EV_of_fnK' (fn := Tryd.f81) (by kernel_rfl) (by kernel_rfl) (by kernel_rfl) hh
theorem tree_formed_1_of {r : R3} {x0 : AV} {H : List AObj} (hh : (fun n => (
 newK x0 H fun a1 H1 E1 =>
 (loadA true 5 a1 H1).bind fun a2 =>
 callK (EV C) false n_tree_formed [a2] H1 fun a3 H3 E3 =>
 (unA .not a3).bind fun a4 =>
 endB false false n a4 H3 (E3 ++ (E1 ++ [])))) (List.length H) = some r) : EV C n_tree_formed_1 [x0] H = some r :=
 EV_of_fnK' (fn := Tryd.f100) (by kernel_rfl) (by kernel_rfl) (by kernel_rfl) hh
theorem tree_Check_of {r : R3} {x0 : AV} {H : List AObj} (hh : (fun n => (
 newK x0 H fun a1 H1 E1 =>
 (loadA true 5 a1 H1).bind fun a2 =>
 callK (EV C) false n_tree_deep [a2, (.int .i64 64)] H1 fun a3 H3 E3 =>
 condK a3
 (endB false false n (.ifc t_api_Code (.int .i64 5)) H3 (E3 ++ (E1 ++ [])))
 ((loadA true 5 a1 H3).bind fun a4 =>
 callK (EV C) false n_tree_formed [a4] H3 fun a5 H5 E5 =>
 (unA .not a5).bind fun a6 =>
 condK a6
 (endB false false n (.ifc t_api_Code (.int .i64 3)) H5 (E5 ++ (E3 ++ (E1 ++ []))))
 (endB false false n .nili H5 (E5 ++ (E3 ++ (E1 ++ []))))))) (List.length H) = some r) : EV C n_tree_Check [x0] H = some r :=
 EV_of_fnK' (fn := Tryd.f56) (by kernel_rfl) (by kernel_rfl) (by kernel_rfl) hh
theorem tree_of_of {r : R3} {x0 x1 x2 : AV} {H : List AObj} (hh : (fun n => (
 (binA .neq (Go.TypeDesc.interface #[("Error", 138)]) (cmpT Tryd.prog) true x2 .nili).bind fun a1 =>
 condK a1
 (endB false false n (.tup [.nils, (.ifc t_api_Code (.int .i64 3))]) H [])
 (callK (EV C) false n_digest_Of [x0, x1] H fun a2 H2 E2 =>
 (extA a2 0).bind fun a3 =>
 (extA a2 1).bind fun a4 =>
 endB false false n (.tup [a3, a4]) H2 (E2 ++ [])))) (List.length H) = some r) : EV C n_tree_of [x0, x1, x2] H = some r :=
 EV_of_fnK' (fn := Tryd.f85) (by kernel_rfl) (by kernel_rfl) (by kernel_rfl) hh
theorem tree_told_of {r : R3} {x0 x1 : AV} {H : List AObj} (hh : (fun n => (
 newK x1 H fun a1 H1 E1 =>
 (offA a1 0).bind fun a2 =>
 (loadA false 1 a2 H1).bind fun a3 =>
 (binA .eql (Go.TypeDesc.int Go.IntKind.i64) (cmpT Tryd.prog) true a3 (.int .i64 0)).bind fun a4 =>
 condK a4
 (callK (EV C) false n_digest_None [] H1 fun a5 H5 E5 =>
 callK (EV C) false n_digest_Of [x0, a5] H5 fun a6 H6 E6 =>
 (extA a6 0).bind fun a7 =>
 (extA a6 1).bind fun a8 =>
 endB false false n (.tup [a7, a8]) H6 (E6 ++ (E5 ++ (E1 ++ []))))
 ((binA .eql (Go.TypeDesc.int Go.IntKind.i64) (cmpT Tryd.prog) true a3 (.int .i64 3)).bind fun a9 =>
 condK a9
 ((offA a1 3).bind fun a10 =>
 (loadA false 1 a10 H1).bind fun a11 =>
 (lenV a11 H1).bind fun a12 =>
 (binA .neq (Go.TypeDesc.int Go.IntKind.i64) (cmpT Tryd.prog) false a12 x0).bind fun a13 =>
 condK a13
 (endB false false n (.tup [.nils, (.ifc t_api_Code (.int .i64 3))]) H1 (E1 ++ []))
 ((offA a1 3).bind fun a14 =>
 (loadA false 1 a14 H1).bind fun a15 =>
 callK (EV C) false n_Clone_byte [a15] H1 fun a16 H16 E16 =>
 endB false false n (.tup [a16, .nili]) H16 (E16 ++ (E1 ++ []))))
 ((offA a1 3).bind fun a17 =>
 (loadA false 1 a17 H1).bind fun a18 =>
 (offA a1 0).bind fun a19 =>
 (loadA false 1 a19 H1).bind fun a20 =>
 (binA .eql (Go.TypeDesc.int Go.IntKind.i64) (cmpT Tryd.prog) true a20 (.int .i64 1)).bind fun a21 =>
 condK a21
 ((offA a1 2).bind fun a22 =>
 (loadA false 1 a22 H1).bind fun a23 =>
 callK (EV C) false n_digest_Value [a23] H1 fun a24 H24 E24 =>
 callK (EV C) false n_digest_Of [x0, a24] H24 fun a25 H25 E25 =>
 (extA a25 0).bind fun a26 =>
 (extA a25 1).bind fun a27 =>
 (binA .neq (Go.TypeDesc.interface #[("Error", 138)]) (cmpT Tryd.prog) true a27 .nili).bind fun a28 =>
 condK a28
 (endB false false n (.tup [.nils, a27]) H25 (E25 ++ (E24 ++ (E1 ++ []))))
 ((offA a1 1).bind fun a29 =>
 (loadA false 1 a29 H25).bind fun a30 =>
 callK (EV C) false n_digest_Pair [x0, a30, a26] H25 fun a31 H31 E31 =>
 (extA a31 0).bind fun a32 =>
 (extA a31 1).bind fun a33 =>
 callK (EV C) false n_tree_of [x0, a32, a33] H31 fun a34 H34 E34 =>
 (extA a34 0).bind fun a35 =>
 (extA a34 1).bind fun a36 =>
 (binA .neq (Go.TypeDesc.interface #[("Error", 138)]) (cmpT Tryd.prog) true a36 .nili).bind fun a37 =>
 condK a37
 (endB false false n (.tup [.nils, a36]) H34 (E34 ++ (E31 ++ (E25 ++ (E24 ++ (E1 ++ []))))))
 ((offA a1 4).bind fun a38 =>
 (loadA false 1 a38 H34).bind fun a39 =>
 (ixA 5 a39 (.int .i64 0) H34).bind fun a40 =>
 (loadA true 5 a40 H34).bind fun a41 =>
 callK (EV C) false n_tree_told [x0, a41] H34 fun a42 H42 E42 =>
 (extA a42 0).bind fun a43 =>
 (extA a42 1).bind fun a44 =>
 (binA .neq (Go.TypeDesc.interface #[("Error", 138)]) (cmpT Tryd.prog) true a44 .nili).bind fun a45 =>
 condK a45
 (endB false false n (.tup [.nils, a44]) H42 (E42 ++ (E34 ++ (E31 ++ (E25 ++ (E24 ++ (E1 ++ [])))))))
 ((offA a1 4).bind fun a46 =>
 (loadA false 1 a46 H42).bind fun a47 =>
 (ixA 5 a47 (.int .i64 1) H42).bind fun a48 =>
 (loadA true 5 a48 H42).bind fun a49 =>
 callK (EV C) false n_tree_told [x0, a49] H42 fun a50 H50 E50 =>
 (extA a50 0).bind fun a51 =>
 (extA a50 1).bind fun a52 =>
 (binA .neq (Go.TypeDesc.interface #[("Error", 138)]) (cmpT Tryd.prog) true a52 .nili).bind fun a53 =>
 condK a53
 (endB false false n (.tup [.nils, a52]) H50 (E50 ++ (E42 ++ (E34 ++ (E31 ++ (E25 ++ (E24 ++ (E1 ++ []))))))))
 (callK (EV C) false n_digest_Node [x0, a43, a35, a51] H50 fun a54 H54 E54 =>
 (extA a54 0).bind fun a55 =>
 (extA a54 1).bind fun a56 =>
 callK (EV C) false n_tree_of [x0, a55, a56] H54 fun a57 H57 E57 =>
 (extA a57 0).bind fun a58 =>
 (extA a57 1).bind fun a59 =>
 endB false false n (.tup [a58, a59]) H57 (E57 ++ (E54 ++ (E50 ++ (E42 ++ (E34 ++ (E31 ++ (E25 ++ (E24 ++ (E1 ++ []))))))))))))))
 ((offA a1 1).bind fun a60 =>
 (loadA false 1 a60 H1).bind fun a61 =>
 callK (EV C) false n_digest_Pair [x0, a61, a18] H1 fun a62 H62 E62 =>
 (extA a62 0).bind fun a63 =>
 (extA a62 1).bind fun a64 =>
 callK (EV C) false n_tree_of [x0, a63, a64] H62 fun a65 H65 E65 =>
 (extA a65 0).bind fun a66 =>
 (extA a65 1).bind fun a67 =>
 (binA .neq (Go.TypeDesc.interface #[("Error", 138)]) (cmpT Tryd.prog) true a67 .nili).bind fun a68 =>
 condK a68
 (endB false false n (.tup [.nils, a67]) H65 (E65 ++ (E62 ++ (E1 ++ []))))
 ((offA a1 4).bind fun a69 =>
 (loadA false 1 a69 H65).bind fun a70 =>
 (ixA 5 a70 (.int .i64 0) H65).bind fun a71 =>
 (loadA true 5 a71 H65).bind fun a72 =>
 callK (EV C) false n_tree_told [x0, a72] H65 fun a73 H73 E73 =>
 (extA a73 0).bind fun a74 =>
 (extA a73 1).bind fun a75 =>
 (binA .neq (Go.TypeDesc.interface #[("Error", 138)]) (cmpT Tryd.prog) true a75 .nili).bind fun a76 =>
 condK a76
 (endB false false n (.tup [.nils, a75]) H73 (E73 ++ (E65 ++ (E62 ++ (E1 ++ [])))))
 ((offA a1 4).bind fun a77 =>
 (loadA false 1 a77 H73).bind fun a78 =>
 (ixA 5 a78 (.int .i64 1) H73).bind fun a79 =>
 (loadA true 5 a79 H73).bind fun a80 =>
 callK (EV C) false n_tree_told [x0, a80] H73 fun a81 H81 E81 =>
 (extA a81 0).bind fun a82 =>
 (extA a81 1).bind fun a83 =>
 (binA .neq (Go.TypeDesc.interface #[("Error", 138)]) (cmpT Tryd.prog) true a83 .nili).bind fun a84 =>
 condK a84
 (endB false false n (.tup [.nils, a83]) H81 (E81 ++ (E73 ++ (E65 ++ (E62 ++ (E1 ++ []))))))
 (callK (EV C) false n_digest_Node [x0, a74, a66, a82] H81 fun a85 H85 E85 =>
 (extA a85 0).bind fun a86 =>
 (extA a85 1).bind fun a87 =>
 callK (EV C) false n_tree_of [x0, a86, a87] H85 fun a88 H88 E88 =>
 (extA a88 0).bind fun a89 =>
 (extA a88 1).bind fun a90 =>
 endB false false n (.tup [a89, a90]) H88 (E88 ++ (E85 ++ (E81 ++ (E73 ++ (E65 ++ (E62 ++ (E1 ++ []))))))))))))))) (List.length H) = some r) : EV C n_tree_told [x0, x1] H = some r :=
 EV_of_fnK' (fn := Tryd.f57) (by kernel_rfl) (by kernel_rfl) (by kernel_rfl) hh
theorem tree_Digest_of {r : R3} {x0 x1 : AV} {H : List AObj} (hh : (fun n => (
 newK x1 H fun a1 H1 E1 =>
 (binA .lss (Go.TypeDesc.int Go.IntKind.i64) (cmpT Tryd.prog) true x0 (.int .i64 1)).bind fun a2 =>
 splitK a2
 (endB false false n (.tup [.nils, (.ifc t_api_Code (.int .i64 1))]) H1 (E1 ++ []))
 ((binA .gtr (Go.TypeDesc.int Go.IntKind.i64) (cmpT Tryd.prog) true x0 (.int .i64 32)).bind fun a3 =>
 condK a3
 (endB false false n (.tup [.nils, (.ifc t_api_Code (.int .i64 1))]) H1 (E1 ++ []))
 ((loadA true 5 a1 H1).bind fun a4 =>
 callK (EV C) false n_tree_Check [a4] H1 fun a5 H5 E5 =>
 (binA .neq (Go.TypeDesc.interface #[("Error", 138)]) (cmpT Tryd.prog) true a5 .nili).bind fun a6 =>
 condK a6
 (endB false false n (.tup [.nils, a5]) H5 (E5 ++ (E1 ++ [])))
 ((loadA true 5 a1 H5).bind fun a7 =>
 callK (EV C) false n_tree_told [x0, a7] H5 fun a8 H8 E8 =>
 (extA a8 0).bind fun a9 =>
 (extA a8 1).bind fun a10 =>
 endB false false n (.tup [a9, a10]) H8 (E8 ++ (E5 ++ (E1 ++ [])))))))) (List.length H) = some r) : EV C n_tree_Digest [x0, x1] H = some r :=
 EV_of_fnK' (fn := Tryd.f24) (by kernel_rfl) (by kernel_rfl) (by kernel_rfl) hh
theorem ContainsFunc_api_Tree_of {r : R3} {x0 x1 : AV} {H : List AObj} (hh : (fun n => (
 callK (EV C) false n_IndexFunc_api_Tree [x0, x1] H fun a1 H1 E1 =>
 (binA .geq (Go.TypeDesc.int Go.IntKind.i64) (cmpT Tryd.prog) true a1 (.int .i64 0)).bind fun a2 =>
 endB false false n a2 H1 (E1 ++ []))) (List.length H) = some r) : EV C n_ContainsFunc_api_Tree [x0, x1] H = some r :=
 EV_of_fnK' (fn := Tryd.f98) (by kernel_rfl) (by kernel_rfl) (by kernel_rfl) hh
noncomputable def IndexFunc_api_Tree_J2 (n : Nat) (t0 t1 t7 t8 : AV) (H : List AObj) (E : List Nat) : Option R3 :=
 loopK Tryd.prog C.G (EV C) (C.hint 112) Tryd.f112 (cAt (bodyOf Tryd.f112) [1, 0, 1, 0, 0]) (kAt Tryd.prog C.G (EV C) (C.hint 112) Tryd.f112 (bodyOf Tryd.f112) [1, 0, 1, 0] [] (endK Tryd.prog (C.hint 112) Tryd.f112 n))
 ⟨pat 19 [(0, t0), (1, t1), (7, t7), (8, t8)], H, E⟩
theorem IndexFunc_api_Tree_J2_of {r : R3} {n : Nat} {t0 t1 t7 t8 : AV} {H : List AObj} {E : List Nat} (hh : (
 (binA .lss (Go.TypeDesc.int Go.IntKind.i64) (cmpT Tryd.prog) false t8 t7).bind fun a1 =>
 condK a1
 ((ixA 5 t0 t8 H).bind fun a2 =>
 (loadA true 5 a2 H).bind fun a3 =>
 valK Tryd.prog (EV C) false t1 [a3] H fun a4 H4 E4 =>
 condK a4
 (endB false false n t8 H4 ((E4 ++ []) ++ E))
 ((binA .add (Go.TypeDesc.int Go.IntKind.i64) (cmpT Tryd.prog) true t8 (.int .i64 1)).bind fun a5 =>
 IndexFunc_api_Tree_J2 n t0 t1 t7 a5 H4 ((E4 ++ []) ++ E)))
 (endB false false n (.int .i64 (-1)) H E)) = some r) : IndexFunc_api_Tree_J2 n t0 t1 t7 t8 H E = some r :=
 loop_step' (by kernel_rfl) hh
theorem IndexFunc_api_Tree_of {r : R3} {x0 x1 : AV} {H : List AObj} (hh : (fun n => (
 (lenV x0 H).bind fun a1 =>
 IndexFunc_api_Tree_J2 n x0 x1 a1 (.int .i64 0) H [])) (List.length H) = some r) : EV C n_IndexFunc_api_Tree [x0, x1] H = some r :=
 EV_of_fnK' (fn := Tryd.f112) (by kernel_rfl) (by kernel_rfl) (by kernel_rfl) hh
noncomputable def ref04_Light_J5 (n : Nat) (t1 t2 t3 t7 : AV) (H : List AObj) (E : List Nat) : Option R3 :=
 loopK Tryd.prog C.G (EV C) (C.hint 40) Tryd.f40 (cAt (bodyOf Tryd.f40) [1, 1, 1, 0, 1, 0, 0]) (kAt Tryd.prog C.G (EV C) (C.hint 40) Tryd.f40 (bodyOf Tryd.f40) [1, 1, 1, 0, 1, 0] [] (endK Tryd.prog (C.hint 40) Tryd.f40 n))
 ⟨pat 60 [(1, t1), (2, t2), (3, t3), (7, t7)], H, E⟩
theorem ref04_Light_J5_of {r : R3} {n : Nat} {t1 t2 t3 t7 : AV} {H : List AObj} {E : List Nat} (hh : (
 (offA t3 4).bind fun a1 =>
 (loadA false 1 a1 H).bind fun a2 =>
 (lenV a2 H).bind fun a3 =>
 (binA .lss (Go.TypeDesc.int Go.IntKind.i64) (cmpT Tryd.prog) false t7 a3).bind fun a4 =>
 condK a4
 ((offA t3 4).bind fun a5 =>
 (loadA false 1 a5 H).bind fun a6 =>
 (ixA 5 a6 t7 H).bind fun a7 =>
 (loadA true 5 a7 H).bind fun a8 =>
 (binA .sub (Go.TypeDesc.int Go.IntKind.i64) (cmpT Tryd.prog) true t2 (.int .i64 1)).bind fun a9 =>
 callK (EV C) false n_ref04_Light [a8, t1, a9] H fun a10 H10 E10 =>
 (binA .lss (Go.TypeDesc.int Go.IntKind.i64) (cmpT Tryd.prog) true a10 (.int .i64 0)).bind fun a11 =>
 condK a11
 (endB false false n (.int .i64 (-1)) H10 ((E10 ++ []) ++ E))
 ((binA .add (Go.TypeDesc.int Go.IntKind.i64) (cmpT Tryd.prog) true t7 (.int .i64 1)).bind fun a12 =>
 ref04_Light_J5 n a10 t2 t3 a12 H10 ((E10 ++ []) ++ E)))
 (endB false false n t1 H E)) = some r) : ref04_Light_J5 n t1 t2 t3 t7 H E = some r :=
 loop_step' (by kernel_rfl) hh
theorem ref04_Light_of {r : R3} {x0 x1 x2 : AV} {H : List AObj} (hh : (fun n => (
 newK x0 H fun a1 H1 E1 =>
 (binA .sub (Go.TypeDesc.int Go.IntKind.i64) (cmpT Tryd.prog) true x1 (.int .i64 1)).bind fun a2 =>
 (binA .eql (Go.TypeDesc.int Go.IntKind.i64) (cmpT Tryd.prog) true x2 (.int .i64 0)).bind fun a3 =>
 splitK a3
 (endB false false n (.int .i64 (-1)) H1 (E1 ++ []))
 ((binA .lss (Go.TypeDesc.int Go.IntKind.i64) (cmpT Tryd.prog) true a2 (.int .i64 0)).bind fun a4 =>
 splitK a4
 (endB false false n (.int .i64 (-1)) H1 (E1 ++ []))
 ((offA a1 4).bind fun a5 =>
 (loadA false 1 a5 H1).bind fun a6 =>
 (lenV a6 H1).bind fun a7 =>
 (binA .gtr (Go.TypeDesc.int Go.IntKind.i64) (cmpT Tryd.prog) false a7 a2).bind fun a8 =>
 splitK a8
 (endB false false n (.int .i64 (-1)) H1 (E1 ++ []))
 ((offA a1 1).bind fun a9 =>
 (loadA false 1 a9 H1).bind fun a10 =>
 (lenV a10 H1).bind fun a11 =>
 (binA .gtr (Go.TypeDesc.int Go.IntKind.i64) (cmpT Tryd.prog) true a11 (.int .i64 3000)).bind fun a12 =>
 splitK a12
 (endB false false n (.int .i64 (-1)) H1 (E1 ++ []))
 ((offA a1 2).bind fun a13 =>
 (loadA false 1 a13 H1).bind fun a14 =>
 (lenV a14 H1).bind fun a15 =>
 (binA .gtr (Go.TypeDesc.int Go.IntKind.i64) (cmpT Tryd.prog) true a15 (.int .i64 3000)).bind fun a16 =>
 splitK a16
 (endB false false n (.int .i64 (-1)) H1 (E1 ++ []))
 ((offA a1 3).bind fun a17 =>
 (loadA false 1 a17 H1).bind fun a18 =>
 (lenV a18 H1).bind fun a19 =>
 (binA .gtr (Go.TypeDesc.int Go.IntKind.i64) (cmpT Tryd.prog) true a19 (.int .i64 3000)).bind fun a20 =>
 condK a20
 (endB false false n (.int .i64 (-1)) H1 (E1 ++ []))
 (ref04_Light_J5 n a2 x2 a1 (.int .i64 0) H1 (E1 ++ []))))))))) (List.length H) = some r) : EV C n_ref04_Light [x0, x1, x2] H = some r :=
 EV_of_fnK' (fn := Tryd.f40) (by kernel_rfl) (by kernel_rfl) (by kernel_rfl) hh
theorem law09_small_of {r : R3} {x0 : AV} {H : List AObj} (hh : (fun n => (
 newK x0 H fun a1 H1 E1 =>
 (loadA true 5 a1 H1).bind fun a2 =>
 callK (EV C) false n_ref04_Light [a2, (.int .i64 200), (.int .i64 100)] H1 fun a3 H3 E3 =>
 (binA .geq (Go.TypeDesc.int Go.IntKind.i64) (cmpT Tryd.prog) true a3 (.int .i64 0)).bind fun a4 =>
 endB false false n a4 H3 (E3 ++ (E1 ++ [])))) (List.length H) = some r) : EV C n_law09_small [x0] H = some r :=
 EV_of_fnK' (fn := Tryd.f27) (by kernel_rfl) (by kernel_rfl) (by kernel_rfl) hh
theorem clash_parts_of {r : R3} {x0 x1 : AV} {H : List AObj} (hh : (fun n => (
 newK x1 H fun a1 H1 E1 =>
 (offA a1 0).bind fun a2 =>
 (loadA false 1 a2 H1).bind fun a3 =>
 (binA .eql (Go.TypeDesc.int Go.IntKind.i64) (cmpT Tryd.prog) true a3 (.int .i64 0)).bind fun a4 =>
 condK a4
 (callK (EV C) false n_digest_None [] H1 fun a5 H5 E5 =>
 endB false false n (.tup [a5, .nils]) H5 (E5 ++ (E1 ++ [])))
 ((offA a1 3).bind fun a6 =>
 (loadA false 1 a6 H1).bind fun a7 =>
 (offA a1 0).bind fun a8 =>
 (loadA false 1 a8 H1).bind fun a9 =>
 (binA .eql (Go.TypeDesc.int Go.IntKind.i64) (cmpT Tryd.prog) true a9 (.int .i64 1)).bind fun a10 =>
 condK a10
 ((offA a1 2).bind fun a11 =>
 (loadA false 1 a11 H1).bind fun a12 =>
 callK (EV C) false n_digest_Value [a12] H1 fun a13 H13 E13 =>
 callK (EV C) false n_digest_Of [x0, a13] H13 fun a14 H14 E14 =>
 (extA a14 0).bind fun a15 =>
 (extA a14 1).bind fun a16 =>
 (binA .neq (Go.TypeDesc.interface #[("Error", 138)]) (cmpT Tryd.prog) true a16 .nili).bind fun a17 =>
 condK a17
 (endB false false n (.tup [.nils, .nils]) H14 (E14 ++ (E13 ++ (E1 ++ []))))
 ((offA a1 1).bind fun a18 =>
 (loadA false 1 a18 H14).bind fun a19 =>
 callK (EV C) false n_digest_Pair [x0, a19, a15] H14 fun a20 H20 E20 =>
 (extA a20 0).bind fun a21 =>
 (extA a20 1).bind fun a22 =>
 (binA .neq (Go.TypeDesc.interface #[("Error", 138)]) (cmpT Tryd.prog) true a22 .nili).bind fun a23 =>
 condK a23
 (endB false false n (.tup [.nils, .nils]) H20 (E20 ++ (E14 ++ (E13 ++ (E1 ++ [])))))
 (callK (EV C) false n_digest_Of [x0, a21] H20 fun a24 H24 E24 =>
 (extA a24 0).bind fun a25 =>
 (extA a24 1).bind fun a26 =>
 (binA .neq (Go.TypeDesc.interface #[("Error", 138)]) (cmpT Tryd.prog) true a26 .nili).bind fun a27 =>
 condK a27
 (endB false false n (.tup [.nils, .nils]) H24 (E24 ++ (E20 ++ (E14 ++ (E13 ++ (E1 ++ []))))))
 ((offA a1 4).bind fun a28 =>
 (loadA false 1 a28 H24).bind fun a29 =>
 (ixA 5 a29 (.int .i64 0) H24).bind fun a30 =>
 (loadA true 5 a30 H24).bind fun a31 =>
 callK (EV C) false n_tree_Digest [x0, a31] H24 fun a32 H32 E32 =>
 (extA a32 0).bind fun a33 =>
 (extA a32 1).bind fun a34 =>
 (binA .neq (Go.TypeDesc.interface #[("Error", 138)]) (cmpT Tryd.prog) true a34 .nili).bind fun a35 =>
 condK a35
 (endB false false n (.tup [.nils, .nils]) H32 (E32 ++ (E24 ++ (E20 ++ (E14 ++ (E13 ++ (E1 ++ [])))))))
 ((offA a1 4).bind fun a36 =>
 (loadA false 1 a36 H32).bind fun a37 =>
 (ixA 5 a37 (.int .i64 1) H32).bind fun a38 =>
 (loadA true 5 a38 H32).bind fun a39 =>
 callK (EV C) false n_tree_Digest [x0, a39] H32 fun a40 H40 E40 =>
 (extA a40 0).bind fun a41 =>
 (extA a40 1).bind fun a42 =>
 (binA .neq (Go.TypeDesc.interface #[("Error", 138)]) (cmpT Tryd.prog) true a42 .nili).bind fun a43 =>
 condK a43
 (endB false false n (.tup [.nils, .nils]) H40 (E40 ++ (E32 ++ (E24 ++ (E20 ++ (E14 ++ (E13 ++ (E1 ++ []))))))))
 (callK (EV C) false n_digest_Node [x0, a33, a25, a41] H40 fun a44 H44 E44 =>
 (extA a44 0).bind fun a45 =>
 (extA a44 1).bind fun a46 =>
 (binA .neq (Go.TypeDesc.interface #[("Error", 138)]) (cmpT Tryd.prog) true a46 .nili).bind fun a47 =>
 condK a47
 (endB false false n (.tup [.nils, .nils]) H44 (E44 ++ (E40 ++ (E32 ++ (E24 ++ (E20 ++ (E14 ++ (E13 ++ (E1 ++ [])))))))))
 (endB false false n (.tup [a45, a21]) H44 (E44 ++ (E40 ++ (E32 ++ (E24 ++ (E20 ++ (E14 ++ (E13 ++ (E1 ++ [])))))))))))))))
 ((offA a1 1).bind fun a48 =>
 (loadA false 1 a48 H1).bind fun a49 =>
 callK (EV C) false n_digest_Pair [x0, a49, a7] H1 fun a50 H50 E50 =>
 (extA a50 0).bind fun a51 =>
 (extA a50 1).bind fun a52 =>
 (binA .neq (Go.TypeDesc.interface #[("Error", 138)]) (cmpT Tryd.prog) true a52 .nili).bind fun a53 =>
 condK a53
 (endB false false n (.tup [.nils, .nils]) H50 (E50 ++ (E1 ++ [])))
 (callK (EV C) false n_digest_Of [x0, a51] H50 fun a54 H54 E54 =>
 (extA a54 0).bind fun a55 =>
 (extA a54 1).bind fun a56 =>
 (binA .neq (Go.TypeDesc.interface #[("Error", 138)]) (cmpT Tryd.prog) true a56 .nili).bind fun a57 =>
 condK a57
 (endB false false n (.tup [.nils, .nils]) H54 (E54 ++ (E50 ++ (E1 ++ []))))
 ((offA a1 4).bind fun a58 =>
 (loadA false 1 a58 H54).bind fun a59 =>
 (ixA 5 a59 (.int .i64 0) H54).bind fun a60 =>
 (loadA true 5 a60 H54).bind fun a61 =>
 callK (EV C) false n_tree_Digest [x0, a61] H54 fun a62 H62 E62 =>
 (extA a62 0).bind fun a63 =>
 (extA a62 1).bind fun a64 =>
 (binA .neq (Go.TypeDesc.interface #[("Error", 138)]) (cmpT Tryd.prog) true a64 .nili).bind fun a65 =>
 condK a65
 (endB false false n (.tup [.nils, .nils]) H62 (E62 ++ (E54 ++ (E50 ++ (E1 ++ [])))))
 ((offA a1 4).bind fun a66 =>
 (loadA false 1 a66 H62).bind fun a67 =>
 (ixA 5 a67 (.int .i64 1) H62).bind fun a68 =>
 (loadA true 5 a68 H62).bind fun a69 =>
 callK (EV C) false n_tree_Digest [x0, a69] H62 fun a70 H70 E70 =>
 (extA a70 0).bind fun a71 =>
 (extA a70 1).bind fun a72 =>
 (binA .neq (Go.TypeDesc.interface #[("Error", 138)]) (cmpT Tryd.prog) true a72 .nili).bind fun a73 =>
 condK a73
 (endB false false n (.tup [.nils, .nils]) H70 (E70 ++ (E62 ++ (E54 ++ (E50 ++ (E1 ++ []))))))
 (callK (EV C) false n_digest_Node [x0, a63, a55, a71] H70 fun a74 H74 E74 =>
 (extA a74 0).bind fun a75 =>
 (extA a74 1).bind fun a76 =>
 (binA .neq (Go.TypeDesc.interface #[("Error", 138)]) (cmpT Tryd.prog) true a76 .nili).bind fun a77 =>
 condK a77
 (endB false false n (.tup [.nils, .nils]) H74 (E74 ++ (E70 ++ (E62 ++ (E54 ++ (E50 ++ (E1 ++ [])))))))
 (endB false false n (.tup [a75, a51]) H74 (E74 ++ (E70 ++ (E62 ++ (E54 ++ (E50 ++ (E1 ++ []))))))))))))))) (List.length H) = some r) : EV C n_clash_parts [x0, x1] H = some r :=
 EV_of_fnK' (fn := Tryd.f87) (by kernel_rfl) (by kernel_rfl) (by kernel_rfl) hh
noncomputable def clash_search_J14 (n : Nat) (t0 t4 t5 t80 t81 : AV) (H : List AObj) (E : List Nat) : Option R3 :=
 loopK Tryd.prog C.G (EV C) (C.hint 58) Tryd.f58 (cAt (bodyOf Tryd.f58) [1, 1, 1, 1, 1, 0, 1, 0, 0]) (kAt Tryd.prog C.G (EV C) (C.hint 58) Tryd.f58 (bodyOf Tryd.f58) [1, 1, 1, 1, 1, 0, 1, 0] [] (endK Tryd.prog (C.hint 58) Tryd.f58 n))
 ⟨pat 104 [(0, t0), (4, t4), (5, t5), (80, t80), (81, t81)], H, E⟩
theorem clash_search_J14_of {r : R3} {n : Nat} {t0 t4 t5 t80 t81 : AV} {H : List AObj} {E : List Nat} (hh : (
 (binA .lss (Go.TypeDesc.int Go.IntKind.i64) (cmpT Tryd.prog) false t81 t80).bind fun a1 =>
 condK a1
 ((offA t4 4).bind fun a2 =>
 (loadA false 1 a2 H).bind fun a3 =>
 (ixA 5 a3 t81 H).bind fun a4 =>
 (loadA true 5 a4 H).bind fun a5 =>
 (offA t5 4).bind fun a6 =>
 (loadA false 1 a6 H).bind fun a7 =>
 (ixA 5 a7 t81 H).bind fun a8 =>
 (loadA true 5 a8 H).bind fun a9 =>
 (callD (EV C) n_clash_search [t0, a5, a9] H).bind fun a10 =>
 (extA a10 0).bind fun a11 =>
 (extA a10 1).bind fun a12 =>
 (extA a10 2).bind fun a13 =>
 condK a13
 (endB false false n (.tup [a11, a12, (.bool true)]) H E)
 ((binA .add (Go.TypeDesc.int Go.IntKind.i64) (cmpT Tryd.prog) true t81 (.int .i64 1)).bind fun a14 =>
 clash_search_J14 n t0 t4 t5 t80 a14 H E))
 (endB false false n (.tup [.nils, .nils, (.bool false)]) H E)) = some r) : clash_search_J14 n t0 t4 t5 t80 t81 H E = some r :=
 loop_step' (by kernel_rfl) hh
theorem clash_search_of {r : R3} {x0 x1 x2 : AV} {H : List AObj} (hh : (fun n => (
 newK x1 H fun a1 H1 E1 =>
 newK x2 H1 fun a2 H2 E2 =>
 (offA a1 0).bind fun a3 =>
 (loadA false 1 a3 H2).bind fun a4 =>
 (binA .eql (Go.TypeDesc.int Go.IntKind.i64) (cmpT Tryd.prog) true a4 (.int .i64 3)).bind fun a5 =>
 splitK a5
 (endB false false n (.tup [.nils, .nils, (.bool false)]) H2 (E2 ++ (E1 ++ [])))
 ((offA a2 0).bind fun a6 =>
 (loadA false 1 a6 H2).bind fun a7 =>
 (binA .eql (Go.TypeDesc.int Go.IntKind.i64) (cmpT Tryd.prog) true a7 (.int .i64 3)).bind fun a8 =>
 condK a8
 (endB false false n (.tup [.nils, .nils, (.bool false)]) H2 (E2 ++ (E1 ++ [])))
 ((loadA true 5 a1 H2).bind fun a9 =>
 callK (EV C) false n_clash_parts [x0, a9] H2 fun a10 H10 E10 =>
 (extA a10 0).bind fun a11 =>
 (extA a10 1).bind fun a12 =>
 (loadA true 5 a2 H10).bind fun a13 =>
 callK (EV C) false n_clash_parts [x0, a13] H10 fun a14 H14 E14 =>
 (extA a14 0).bind fun a15 =>
 (extA a14 1).bind fun a16 =>
 callK (EV C) false n_bytes_Equal [a11, a15] H14 fun a17 H17 E17 =>
 (unA .not a17).bind fun a18 =>
 condK a18
 (endB false false n (.tup [a11, a15, (.bool true)]) H17 (E17 ++ (E14 ++ (E10 ++ (E2 ++ (E1 ++ []))))))
 ((offA a1 0).bind fun a19 =>
 (loadA false 1 a19 H17).bind fun a20 =>
 (binA .eql (Go.TypeDesc.int Go.IntKind.i64) (cmpT Tryd.prog) true a20 (.int .i64 0)).bind fun a21 =>
 condK a21
 (endB false false n (.tup [.nils, .nils, (.bool false)]) H17 (E17 ++ (E14 ++ (E10 ++ (E2 ++ (E1 ++ []))))))
 (callK (EV C) false n_bytes_Equal [a12, a16] H17 fun a22 H22 E22 =>
 (unA .not a22).bind fun a23 =>
 condK a23
 (endB false false n (.tup [a12, a16, (.bool true)]) H22 (E22 ++ (E17 ++ (E14 ++ (E10 ++ (E2 ++ (E1 ++ [])))))))
 ((offA a1 0).bind fun a24 =>
 (loadA false 1 a24 H22).bind fun a25 =>
 (binA .eql (Go.TypeDesc.int Go.IntKind.i64) (cmpT Tryd.prog) true a25 (.int .i64 1)).bind fun a26 =>
 splitK a26
 ((offA a2 0).bind fun a27 =>
 (loadA false 1 a27 H22).bind fun a28 =>
 (binA .eql (Go.TypeDesc.int Go.IntKind.i64) (cmpT Tryd.prog) true a28 (.int .i64 1)).bind fun a29 =>
 splitK a29
 ((offA a1 2).bind fun a30 =>
 (loadA false 1 a30 H22).bind fun a31 =>
 (offA a2 2).bind fun a32 =>
 (loadA false 1 a32 H22).bind fun a33 =>
 callK (EV C) false n_bytes_Equal [a31, a33] H22 fun a34 H34 E34 =>
 (unA .not a34).bind fun a35 =>
 condK a35
 ((offA a1 2).bind fun a36 =>
 (loadA false 1 a36 H34).bind fun a37 =>
 (callD (EV C) n_digest_Value [a37] H34).bind fun a38 =>
 (offA a2 2).bind fun a39 =>
 (loadA false 1 a39 H34).bind fun a40 =>
 (callD (EV C) n_digest_Value [a40] H34).bind fun a41 =>
 endB false false n (.tup [a38, a41, (.bool true)]) H34 (E34 ++ (E22 ++ (E17 ++ (E14 ++ (E10 ++ (E2 ++ (E1 ++ []))))))))
 ((offA a1 4).bind fun a42 =>
 (loadA false 1 a42 H34).bind fun a43 =>
 (lenV a43 H34).bind fun a44 =>
 clash_search_J14 n x0 a1 a2 a44 (.int .i64 0) H34 (E34 ++ (E22 ++ (E17 ++ (E14 ++ (E10 ++ (E2 ++ (E1 ++ [])))))))))
 ((offA a1 4).bind fun a45 =>
 (loadA false 1 a45 H22).bind fun a46 =>
 (lenV a46 H22).bind fun a47 =>
 clash_search_J14 n x0 a1 a2 a47 (.int .i64 0) H22 (E22 ++ (E17 ++ (E14 ++ (E10 ++ (E2 ++ (E1 ++ []))))))))
 ((offA a1 4).bind fun a48 =>
 (loadA false 1 a48 H22).bind fun a49 =>
 (lenV a49 H22).bind fun a50 =>
 clash_search_J14 n x0 a1 a2 a50 (.int .i64 0) H22 (E22 ++ (E17 ++ (E14 ++ (E10 ++ (E2 ++ (E1 ++ [])))))))))))))) (List.length H) = some r) : EV C n_clash_search [x0, x1, x2] H = some r :=
 EV_of_fnK' (fn := Tryd.f58) (by kernel_rfl) (by kernel_rfl) (by kernel_rfl) hh
theorem clash_Find_of {r : R3} {x0 x1 x2 : AV} {H : List AObj} (hh : (fun n => (
 newK x1 H fun a1 H1 E1 =>
 newK x2 H1 fun a2 H2 E2 =>
 (loadA true 5 a1 H2).bind fun a3 =>
 callK (EV C) false n_tree_Digest [x0, a3] H2 fun a4 H4 E4 =>
 (extA a4 0).bind fun a5 =>
 (extA a4 1).bind fun a6 =>
 (binA .neq (Go.TypeDesc.interface #[("Error", 138)]) (cmpT Tryd.prog) true a6 .nili).bind fun a7 =>
 condK a7
 (endB false false n (.tup [.nils, .nils, a6]) H4 (E4 ++ (E2 ++ (E1 ++ []))))
 ((loadA true 5 a2 H4).bind fun a8 =>
 callK (EV C) false n_tree_Digest [x0, a8] H4 fun a9 H9 E9 =>
 (extA a9 0).bind fun a10 =>
 (extA a9 1).bind fun a11 =>
 (binA .neq (Go.TypeDesc.interface #[("Error", 138)]) (cmpT Tryd.prog) true a11 .nili).bind fun a12 =>
 condK a12
 (endB false false n (.tup [.nils, .nils, a11]) H9 (E9 ++ (E4 ++ (E2 ++ (E1 ++ [])))))
 (callK (EV C) false n_bytes_Equal [a5, a10] H9 fun a13 H13 E13 =>
 (unA .not a13).bind fun a14 =>
 condK a14
 (endB false false n (.tup [.nils, .nils, (.ifc t_api_Code (.int .i64 6))]) H13 (E13 ++ (E9 ++ (E4 ++ (E2 ++ (E1 ++ []))))))
 ((loadA true 5 a1 H13).bind fun a15 =>
 (loadA true 5 a2 H13).bind fun a16 =>
 callK (EV C) false n_clash_search [x0, a15, a16] H13 fun a17 H17 E17 =>
 (extA a17 0).bind fun a18 =>
 (extA a17 1).bind fun a19 =>
 (extA a17 2).bind fun a20 =>
 (unA .not a20).bind fun a21 =>
 condK a21
 (endB false false n (.tup [.nils, .nils, (.ifc t_api_Code (.int .i64 9))]) H17 (E17 ++ (E13 ++ (E9 ++ (E4 ++ (E2 ++ (E1 ++ [])))))))
 (endB false false n (.tup [a18, a19, .nili]) H17 (E17 ++ (E13 ++ (E9 ++ (E4 ++ (E2 ++ (E1 ++ [])))))))))))) (List.length H) = some r) : EV C n_clash_Find [x0, x1, x2] H = some r :=
 EV_of_fnK' (fn := Tryd.f28) (by kernel_rfl) (by kernel_rfl) (by kernel_rfl) hh
end Go.Pm
