/- A part of the proof: what the functions of the program answer, as plain lists and numbers. -/
import Derived.Test.YtclfnechcblmoaaDoorP9
namespace Go.Pm
open Go.Proofs
set_option linter.unusedVariables false
set_option maxRecDepth 100000
theorem tree_told_l_of {r : R3} {x0 x1 : AV} {H : List AObj} (hh : (fun n => (
 newK x1 H fun a1 H1 E1 =>
 (offA a1 0).bind fun a2 =>
 (loadA false 1 a2 H1).bind fun a3 =>
 (binA .eql (Go.TypeDesc.int Go.IntKind.i64) (cmpT Tryd.prog) true a3 (.int .i64 0)).bind fun a4 =>
 condK a4
 (callK (EV C) false n_digest_None [] H1 fun a5 H5 E5 =>
 callK (EV C) false n_digest_Of [x0, a5] H5 fun a6 H6 E6 =>
 (extA a6 0).bind fun a7 =>
 (extA a6 1).bind fun a8 =>
 endB false false n (.tup [a7, a8]) H6 (E6 ++ (E5 ++ (E1 ++ []))))
 ((binA .eql (Go.TypeDesc.int Go.IntKind.i64) (cmpT Tryd.prog) true a3 (.int .i64 3)).bind fun a9 =>
 condK a9
 ((offA a1 3).bind fun a10 =>
 (loadA false 1 a10 H1).bind fun a11 =>
 (lenV a11 H1).bind fun a12 =>
 (binA .neq (Go.TypeDesc.int Go.IntKind.i64) (cmpT Tryd.prog) false a12 x0).bind fun a13 =>
 condK a13
 (endB false false n (.tup [.nils, (.ifc t_api_Code (.int .i64 3))]) H1 (E1 ++ []))
 ((offA a1 3).bind fun a14 =>
 (loadA false 1 a14 H1).bind fun a15 =>
 callK (EV C) false n_Clone_byte [a15] H1 fun a16 H16 E16 =>
 endB false false n (.tup [a16, .nili]) H16 (E16 ++ (E1 ++ []))))
 ((offA a1 3).bind fun a17 =>
 (loadA false 1 a17 H1).bind fun a18 =>
 (offA a1 0).bind fun a19 =>
 (loadA false 1 a19 H1).bind fun a20 =>
 (binA .eql (Go.TypeDesc.int Go.IntKind.i64) (cmpT Tryd.prog) true a20 (.int .i64 1)).bind fun a21 =>
 condK a21
 ((offA a1 2).bind fun a22 =>
 (loadA false 1 a22 H1).bind fun a23 =>
 callK (EV C) false n_digest_Value [a23] H1 fun a24 H24 E24 =>
 callK (EV C) false n_digest_Of [x0, a24] H24 fun a25 H25 E25 =>
 (extA a25 0).bind fun a26 =>
 (extA a25 1).bind fun a27 =>
 (binA .neq (Go.TypeDesc.interface #[("Error", 138)]) (cmpT Tryd.prog) true a27 .nili).bind fun a28 =>
 condK a28
 (endB false false n (.tup [.nils, a27]) H25 (E25 ++ (E24 ++ (E1 ++ []))))
 ((offA a1 1).bind fun a29 =>
 (loadA false 1 a29 H25).bind fun a30 =>
 callK (EV C) false n_digest_Pair [x0, a30, a26] H25 fun a31 H31 E31 =>
 (extA a31 0).bind fun a32 =>
 (extA a31 1).bind fun a33 =>
 callK (EV C) false n_tree_of [x0, a32, a33] H31 fun a34 H34 E34 =>
 (extA a34 0).bind fun a35 =>
 (extA a34 1).bind fun a36 =>
 (binA .neq (Go.TypeDesc.interface #[("Error", 138)]) (cmpT Tryd.prog) true a36 .nili).bind fun a37 =>
 condK a37
 (endB false false n (.tup [.nils, a36]) H34 (E34 ++ (E31 ++ (E25 ++ (E24 ++ (E1 ++ []))))))
 ((offA a1 4).bind fun a38 =>
 (loadA false 1 a38 H34).bind fun a39 =>
 (ixA 5 a39 (.int .i64 0) H34).bind fun a40 =>
 (loadA true 5 a40 H34).bind fun a41 =>
 calXK (EV C) 13 n_tree_told [x0, a41] H34 fun a42 H42 E42 =>
 (extA a42 0).bind fun a43 =>
 (extA a42 1).bind fun a44 =>
 (binA .neq (Go.TypeDesc.interface #[("Error", 138)]) (cmpT Tryd.prog) true a44 .nili).bind fun a45 =>
 condK a45
 (endB false false n (.tup [.nils, a44]) H42 (E42 ++ (E34 ++ (E31 ++ (E25 ++ (E24 ++ (E1 ++ [])))))))
 ((offA a1 4).bind fun a46 =>
 (loadA false 1 a46 H42).bind fun a47 =>
 (ixA 5 a47 (.int .i64 1) H42).bind fun a48 =>
 (loadA true 5 a48 H42).bind fun a49 =>
 calXK (EV C) 13 n_tree_told [x0, a49] H42 fun a50 H50 E50 =>
 (extA a50 0).bind fun a51 =>
 (extA a50 1).bind fun a52 =>
 (binA .neq (Go.TypeDesc.interface #[("Error", 138)]) (cmpT Tryd.prog) true a52 .nili).bind fun a53 =>
 condK a53
 (endB false false n (.tup [.nils, a52]) H50 (E50 ++ (E42 ++ (E34 ++ (E31 ++ (E25 ++ (E24 ++ (E1 ++ []))))))))
 (callK (EV C) false n_digest_Node [x0, a43, a35, a51] H50 fun a54 H54 E54 =>
 (extA a54 0).bind fun a55 =>
 (extA a54 1).bind fun a56 =>
 callK (EV C) false n_tree_of [x0, a55, a56] H54 fun a57 H57 E57 =>
 (extA a57 0).bind fun a58 =>
 (extA a57 1).bind fun a59 =>
 endB false false n (.tup [a58, a59]) H57 (E57 ++ (E54 ++ (E50 ++ (E42 ++ (E34 ++ (E31 ++ (E25 ++ (E24 ++ (E1 ++ []))))))))))))))
 ((offA a1 1).bind fun a60 =>
 (loadA false 1 a60 H1).bind fun a61 =>
 callK (EV C) false n_digest_Pair [x0, a61, a18] H1 fun a62 H62 E62 =>
 (extA a62 0).bind fun a63 =>
 (extA a62 1).bind fun a64 =>
 callK (EV C) false n_tree_of [x0, a63, a64] H62 fun a65 H65 E65 =>
 (extA a65 0).bind fun a66 =>
 (extA a65 1).bind fun a67 =>
 (binA .neq (Go.TypeDesc.interface #[("Error", 138)]) (cmpT Tryd.prog) true a67 .nili).bind fun a68 =>
 condK a68
 (endB false false n (.tup [.nils, a67]) H65 (E65 ++ (E62 ++ (E1 ++ []))))
 ((offA a1 4).bind fun a69 =>
 (loadA false 1 a69 H65).bind fun a70 =>
 (ixA 5 a70 (.int .i64 0) H65).bind fun a71 =>
 (loadA true 5 a71 H65).bind fun a72 =>
 calXK (EV C) 13 n_tree_told [x0, a72] H65 fun a73 H73 E73 =>
 (extA a73 0).bind fun a74 =>
 (extA a73 1).bind fun a75 =>
 (binA .neq (Go.TypeDesc.interface #[("Error", 138)]) (cmpT Tryd.prog) true a75 .nili).bind fun a76 =>
 condK a76
 (endB false false n (.tup [.nils, a75]) H73 (E73 ++ (E65 ++ (E62 ++ (E1 ++ [])))))
 ((offA a1 4).bind fun a77 =>
 (loadA false 1 a77 H73).bind fun a78 =>
 (ixA 5 a78 (.int .i64 1) H73).bind fun a79 =>
 (loadA true 5 a79 H73).bind fun a80 =>
 calXK (EV C) 13 n_tree_told [x0, a80] H73 fun a81 H81 E81 =>
 (extA a81 0).bind fun a82 =>
 (extA a81 1).bind fun a83 =>
 (binA .neq (Go.TypeDesc.interface #[("Error", 138)]) (cmpT Tryd.prog) true a83 .nili).bind fun a84 =>
 condK a84
 (endB false false n (.tup [.nils, a83]) H81 (E81 ++ (E73 ++ (E65 ++ (E62 ++ (E1 ++ []))))))
 (callK (EV C) false n_digest_Node [x0, a74, a66, a82] H81 fun a85 H85 E85 =>
 (extA a85 0).bind fun a86 =>
 (extA a85 1).bind fun a87 =>
 callK (EV C) false n_tree_of [x0, a86, a87] H85 fun a88 H88 E88 =>
 (extA a88 0).bind fun a89 =>
 (extA a88 1).bind fun a90 =>
 endB false false n (.tup [a89, a90]) H88 (E88 ++ (E85 ++ (E81 ++ (E73 ++ (E65 ++ (E62 ++ (E1 ++ []))))))))))))))) (List.length H) = some r) : EV C n_tree_told_l [x0, x1] H = some r :=
 EV_of_fnK' (fn := Tryd.f57) (by kernel_rfl) (by kernel_rfl) (by kernel_rfl) hh
theorem tree_Digest_l_of {r : R3} {x0 x1 : AV} {H : List AObj} (hh : (fun n => (
 newK x1 H fun a1 H1 E1 =>
 (binA .lss (Go.TypeDesc.int Go.IntKind.i64) (cmpT Tryd.prog) true x0 (.int .i64 1)).bind fun a2 =>
 splitK a2
 (endB false false n (.tup [.nils, (.ifc t_api_Code (.int .i64 1))]) H1 (E1 ++ []))
 ((binA .gtr (Go.TypeDesc.int Go.IntKind.i64) (cmpT Tryd.prog) true x0 (.int .i64 32)).bind fun a3 =>
 condK a3
 (endB false false n (.tup [.nils, (.ifc t_api_Code (.int .i64 1))]) H1 (E1 ++ []))
 ((loadA true 5 a1 H1).bind fun a4 =>
 calXK (EV C) 12 n_tree_Check [a4] H1 fun a5 H5 E5 =>
 (binA .neq (Go.TypeDesc.interface #[("Error", 138)]) (cmpT Tryd.prog) true a5 .nili).bind fun a6 =>
 condK a6
 (endB false false n (.tup [.nils, a5]) H5 (E5 ++ (E1 ++ [])))
 ((loadA true 5 a1 H5).bind fun a7 =>
 calXK (EV C) 13 n_tree_told [x0, a7] H5 fun a8 H8 E8 =>
 (extA a8 0).bind fun a9 =>
 (extA a8 1).bind fun a10 =>
 endB false false n (.tup [a9, a10]) H8 (E8 ++ (E5 ++ (E1 ++ [])))))))) (List.length H) = some r) : EV C n_tree_Digest_l [x0, x1] H = some r :=
 EV_of_fnK' (fn := Tryd.f24) (by kernel_rfl) (by kernel_rfl) (by kernel_rfl) hh
end Go.Pm
