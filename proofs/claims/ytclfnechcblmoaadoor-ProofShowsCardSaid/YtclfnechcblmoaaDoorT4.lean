/- A part of the proof: what the functions of the program answer, as plain lists and numbers. -/
import Derived.Test.YtclfnechcblmoaaDoorT0
namespace Go.Pm
open Go.Proofs
set_option linter.unusedVariables false
set_option maxRecDepth 100000
/-! ### 7 heartwood/heartwoodlaw09.ClashRight -/
theorem law09_ClashRight_of {r : R3} {x0 x1 x2 : AV} {H : List AObj} (hh : (fun n => (
 newK x1 H fun a1 H1 E1 =>
 newK x2 H1 fun a2 H2 E2 =>
 callK (EV C) false n_law09_up [] H2 fun a3 H3 E3 =>
 (loadA true 5 a1 H3).bind fun a4 =>
 callK (EV C) false n_law09_small [a4] H3 fun a5 H5 E5 =>
 (unA .not a5).bind fun a6 =>
 splitK a6
 (endB false false n a3 H5 (E5 ++ (E3 ++ (E2 ++ (E1 ++ [])))))
 ((loadA true 5 a2 H5).bind fun a7 =>
 callK (EV C) false n_law09_small [a7] H5 fun a8 H8 E8 =>
 (unA .not a8).bind fun a9 =>
 condK a9
 (endB false false n a3 H8 (E8 ++ (E5 ++ (E3 ++ (E2 ++ (E1 ++ []))))))
 ((loadA true 5 a1 H8).bind fun a10 =>
 (loadA true 5 a2 H8).bind fun a11 =>
 callK (EV C) false n_clash_Find [x0, a10, a11] H8 fun a12 H12 E12 =>
 (extA a12 0).bind fun a13 =>
 (extA a12 1).bind fun a14 =>
 (extA a12 2).bind fun a15 =>
 (binA .neq (Go.TypeDesc.interface #[("Error", 138)]) (cmpT Tryd.prog) true a15 .nili).bind fun a16 =>
 condK a16
 (endB false false n a3 H12 (E12 ++ (E8 ++ (E5 ++ (E3 ++ (E2 ++ (E1 ++ [])))))))
 (callK (EV C) false n_digest_Of [x0, a13] H12 fun a17 H17 E17 =>
 (extA a17 0).bind fun a18 =>
 (extA a17 1).bind fun a19 =>
 callK (EV C) false n_digest_Of [x0, a14] H17 fun a20 H20 E20 =>
 (extA a20 0).bind fun a21 =>
 (extA a20 1).bind fun a22 =>
 splitK a3
 ((binA .eql (Go.TypeDesc.interface #[("Error", 138)]) (cmpT Tryd.prog) true a19 .nili).bind fun a23 =>
 splitK a23
 ((binA .eql (Go.TypeDesc.interface #[("Error", 138)]) (cmpT Tryd.prog) true a22 .nili).bind fun a24 =>
 splitK a24
 ((cvL a13 H20).bind fun a25 =>
 (cvL a14 H20).bind fun a26 =>
 (binA .neq Go.TypeDesc.string (cmpT Tryd.prog) false a25 a26).bind fun a27 =>
 splitK a27
 ((cvL a18 H20).bind fun a28 =>
 (cvL a21 H20).bind fun a29 =>
 (binA .eql Go.TypeDesc.string (cmpT Tryd.prog) false a28 a29).bind fun a30 =>
 endB false false n a30 H20 (E20 ++ (E17 ++ (E12 ++ (E8 ++ (E5 ++ (E3 ++ (E2 ++ (E1 ++ [])))))))))
 (endB false false n (.bool false) H20 (E20 ++ (E17 ++ (E12 ++ (E8 ++ (E5 ++ (E3 ++ (E2 ++ (E1 ++ []))))))))))
 (endB false false n (.bool false) H20 (E20 ++ (E17 ++ (E12 ++ (E8 ++ (E5 ++ (E3 ++ (E2 ++ (E1 ++ []))))))))))
 (endB false false n (.bool false) H20 (E20 ++ (E17 ++ (E12 ++ (E8 ++ (E5 ++ (E3 ++ (E2 ++ (E1 ++ []))))))))))
 (endB false false n (.bool false) H20 (E20 ++ (E17 ++ (E12 ++ (E8 ++ (E5 ++ (E3 ++ (E2 ++ (E1 ++ [])))))))))))))) (List.length H) = some r) : EV C n_law09_ClashRight [x0, x1, x2] H = some r :=
 EV_of_fnK' (fn := Tryd.f7) (by kernel_rfl) (by kernel_rfl) (by kernel_rfl) hh
/-! ### 8 heartwood/heartwoodlaw09.ClashSame -/
theorem law09_ClashSame_of {r : R3} {x0 x1 x2 : AV} {H : List AObj} (hh : (fun n => (
 newK x1 H fun a1 H1 E1 =>
 callK (EV C) false n_law09_up [] H1 fun a2 H2 E2 =>
 (loadA true 5 a1 H2).bind fun a3 =>
 callK (EV C) false n_law09_small [a3] H2 fun a4 H4 E4 =>
 (loadA true 5 a1 H4).bind fun a5 =>
 callK (EV C) false n_tree_Digest [x0, a5] H4 fun a6 H6 E6 =>
 (extA a6 0).bind fun a7 =>
 (extA a6 1).bind fun a8 =>
 (unA .not a4).bind fun a9 =>
 splitK a9
 (endB false false n a2 H6 (E6 ++ (E4 ++ (E2 ++ (E1 ++ [])))))
 ((binA .neq (Go.TypeDesc.interface #[("Error", 138)]) (cmpT Tryd.prog) true a8 .nili).bind fun a10 =>
 condK a10
 (endB false false n a2 H6 (E6 ++ (E4 ++ (E2 ++ (E1 ++ [])))))
 ((loadA true 5 a1 H6).bind fun a11 =>
 (loadA true 5 a1 H6).bind fun a12 =>
 callK (EV C) false n_clash_Find [x0, a11, a12] H6 fun a13 H13 E13 =>
 (extA a13 0).bind fun a14 =>
 (extA a13 1).bind fun a15 =>
 (extA a13 2).bind fun a16 =>
 (loadA true 5 a1 H13).bind fun a17 =>
 (fillB (AV.cells (.agg [(.int .i64 0), .nils, .nils, .nils, .nils])) [(0, 1, (.int .i64 3)), (3, 1, a7)]).bind fun c18 =>
 callK (EV C) false n_clash_Find [x0, a17, (.agg c18)] H13 fun a19 H19 E19 =>
 (extA a19 0).bind fun a20 =>
 (extA a19 1).bind fun a21 =>
 (extA a19 2).bind fun a22 =>
 (offA a1 4).bind fun a23 =>
 (loadA false 1 a23 H19).bind fun a24 =>
 (lenV a24 H19).bind fun a25 =>
 (binA .neq (Go.TypeDesc.int Go.IntKind.i64) (cmpT Tryd.prog) true a25 (.int .i64 2)).bind fun a26 =>
 splitK a26
 (splitK a2
 ((binA .eql (Go.TypeDesc.interface #[("Error", 138)]) (cmpT Tryd.prog) false a16 (.ifc t_api_Code (.int .i64 9))).bind fun a27 =>
 splitK a27
 ((binA .eql (Go.TypeDesc.interface #[("Error", 138)]) (cmpT Tryd.prog) false a22 (.ifc t_api_Code (.int .i64 9))).bind fun a28 =>
 endB false false n a28 H19 (E19 ++ (E13 ++ (E6 ++ (E4 ++ (E2 ++ (E1 ++ [])))))))
 (endB false false n (.bool false) H19 (E19 ++ (E13 ++ (E6 ++ (E4 ++ (E2 ++ (E1 ++ []))))))))
 (endB false false n (.bool false) H19 (E19 ++ (E13 ++ (E6 ++ (E4 ++ (E2 ++ (E1 ++ []))))))))
 ((binA .rem (Go.TypeDesc.int Go.IntKind.i64) (cmpT Tryd.prog) true x2 (.int .i64 2)).bind fun a29 =>
 (binA .neq (Go.TypeDesc.int Go.IntKind.i64) (cmpT Tryd.prog) true a29 (.int .i64 0)).bind fun a30 =>
 condK a30
 (splitK a2
 ((binA .eql (Go.TypeDesc.interface #[("Error", 138)]) (cmpT Tryd.prog) false a16 (.ifc t_api_Code (.int .i64 9))).bind fun a31 =>
 splitK a31
 ((binA .eql (Go.TypeDesc.interface #[("Error", 138)]) (cmpT Tryd.prog) false a22 (.ifc t_api_Code (.int .i64 9))).bind fun a32 =>
 endB false false n a32 H19 (E19 ++ (E13 ++ (E6 ++ (E4 ++ (E2 ++ (E1 ++ [])))))))
 (endB false false n (.bool false) H19 (E19 ++ (E13 ++ (E6 ++ (E4 ++ (E2 ++ (E1 ++ []))))))))
 (endB false false n (.bool false) H19 (E19 ++ (E13 ++ (E6 ++ (E4 ++ (E2 ++ (E1 ++ []))))))))
 ((offA a1 4).bind fun a33 =>
 (loadA false 1 a33 H19).bind fun a34 =>
 (ixA 5 a34 (.int .i64 0) H19).bind fun a35 =>
 (loadA true 5 a35 H19).bind fun a36 =>
 callK (EV C) false n_tree_Digest [x0, a36] H19 fun a37 H37 E37 =>
 (extA a37 0).bind fun a38 =>
 (extA a37 1).bind fun a39 =>
 (offA a1 0).bind fun a40 =>
 (loadA false 1 a40 H37).bind fun a41 =>
 (offA a1 1).bind fun a42 =>
 (loadA false 1 a42 H37).bind fun a43 =>
 (offA a1 2).bind fun a44 =>
 (loadA false 1 a44 H37).bind fun a45 =>
 (offA a1 3).bind fun a46 =>
 (loadA false 1 a46 H37).bind fun a47 =>
 (fillB (AV.cells (.agg [(.int .i64 0), .nils, .nils, .nils, .nils])) [(0, 1, (.int .i64 3)), (3, 1, a38)]).bind fun c48 =>
 (offA a1 4).bind fun a49 =>
 (loadA false 1 a49 H37).bind fun a50 =>
 (ixA 5 a50 (.int .i64 1) H37).bind fun a51 =>
 (loadA true 5 a51 H37).bind fun a52 =>
 (litD 5 2 (.agg [(.int .i64 0), .nils, .nils, .nils, .nils]) [(0, (.agg c48)), (1, a52)] H37).bind fun a53 =>
 (fillB (AV.cells (.agg [(.int .i64 0), .nils, .nils, .nils, .nils])) [(0, 1, a41), (1, 1, a43), (2, 1, a45), (3, 1, a47), (4, 1, a53)]).bind fun c54 =>
 newK (.agg [(.int .i64 0), .nils, .nils, .nils, .nils]) H37 fun a55 H55 E55 =>
 drawK (((loadA false 1 a40 H55).bind fun a56 =>
 some a56) = some a41)
 (drawK (((loadA false 1 a42 H55).bind fun a57 =>
 some a57) = some a43)
 (drawK (((loadA false 1 a44 H55).bind fun a58 =>
 some a58) = some a45)
 (drawK (((loadA false 1 a46 H55).bind fun a59 =>
 some a59) = some a47)
 (drawK (((loadA false 1 a49 H55).bind fun a60 =>
 some a60) = some a50)
 (drawK (((ixA 5 a50 (.int .i64 1) H55).bind fun a61 =>
 some a61) = some a51)
 (drawK (((loadA true 5 a51 H55).bind fun a62 =>
 some a62) = some a52)
 (drawK (((litD 5 2 (.agg [(.int .i64 0), .nils, .nils, .nils, .nils]) [(0, (.agg c48)), (1, a52)] H55).bind fun a63 =>
 some a63) = some a53)
 (stoK 5 a55 (.agg c54) H55 fun H64 E64 =>
 (loadA true 5 a55 H64).bind fun a65 =>
 (loadA true 5 a1 H64).bind fun a66 =>
 callK (EV C) false n_clash_Find [x0, a65, a66] H64 fun a67 H67 E67 =>
 (extA a67 0).bind fun a68 =>
 (extA a67 1).bind fun a69 =>
 (extA a67 2).bind fun a70 =>
 splitK a2
 ((binA .eql (Go.TypeDesc.interface #[("Error", 138)]) (cmpT Tryd.prog) false a16 (.ifc t_api_Code (.int .i64 9))).bind fun a71 =>
 splitK a71
 ((binA .eql (Go.TypeDesc.interface #[("Error", 138)]) (cmpT Tryd.prog) false a22 (.ifc t_api_Code (.int .i64 9))).bind fun a72 =>
 splitK a72
 ((binA .eql (Go.TypeDesc.interface #[("Error", 138)]) (cmpT Tryd.prog) true a39 .nili).bind fun a73 =>
 splitK a73
 ((binA .eql (Go.TypeDesc.interface #[("Error", 138)]) (cmpT Tryd.prog) false a70 (.ifc t_api_Code (.int .i64 9))).bind fun a74 =>
 endB false false n a74 H67 (E67 ++ (E64 ++ (E55 ++ (E37 ++ (E19 ++ (E13 ++ (E6 ++ (E4 ++ (E2 ++ (E1 ++ [])))))))))))
 (endB false false n (.bool false) H67 (E67 ++ (E64 ++ (E55 ++ (E37 ++ (E19 ++ (E13 ++ (E6 ++ (E4 ++ (E2 ++ (E1 ++ []))))))))))))
 (endB false false n (.bool false) H67 (E67 ++ (E64 ++ (E55 ++ (E37 ++ (E19 ++ (E13 ++ (E6 ++ (E4 ++ (E2 ++ (E1 ++ []))))))))))))
 (endB false false n (.bool false) H67 (E67 ++ (E64 ++ (E55 ++ (E37 ++ (E19 ++ (E13 ++ (E6 ++ (E4 ++ (E2 ++ (E1 ++ []))))))))))))
 (endB false false n (.bool false) H67 (E67 ++ (E64 ++ (E55 ++ (E37 ++ (E19 ++ (E13 ++ (E6 ++ (E4 ++ (E2 ++ (E1 ++ []))))))))))))))))))))))))) (List.length H) = some r) : EV C n_law09_ClashSame [x0, x1, x2] H = some r :=
 EV_of_fnK' (fn := Tryd.f8) (by kernel_rfl) (by kernel_rfl) (by kernel_rfl) hh
/-! ### 26 heartwood/heartwoodlaw09.up -/
theorem law09_up_of {r : R3} {H : List AObj} (hh : (fun n => (
 (fillB (AV.cells (.agg [(.int .i64 0), .nils, .nils, .nils, .nils])) []).bind fun c1 =>
 (fillB (AV.cells (.agg [(.int .i64 0), .nils, .nils, .nils, .nils])) []).bind fun c2 =>
 callK (EV C) false n_clash_Find [(.int .i64 1), (.agg c1), (.agg c2)] H fun a3 H3 E3 =>
 (extA a3 0).bind fun a4 =>
 (extA a3 1).bind fun a5 =>
 (extA a3 2).bind fun a6 =>
 (fillB (AV.cells (.agg [(.int .i64 0), .nils, .nils, .nils, .nils])) []).bind fun c7 =>
 litK 1 1 (.int .u8 0) [(0, (.int .u8 9))] H3 fun a8 H8 E8 =>
 (fillB (AV.cells (.agg [(.int .i64 0), .nils, .nils, .nils, .nils])) [(0, 1, (.int .i64 3)), (3, 1, a8)]).bind fun c9 =>
 callK (EV C) false n_clash_Find [(.int .i64 1), (.agg c7), (.agg c9)] H8 fun a10 H10 E10 =>
 (extA a10 0).bind fun a11 =>
 (extA a10 1).bind fun a12 =>
 (extA a10 2).bind fun a13 =>
 (binA .eql (Go.TypeDesc.interface #[("Error", 138)]) (cmpT Tryd.prog) false a6 (.ifc t_api_Code (.int .i64 9))).bind fun a14 =>
 splitK a14
 ((binA .eql (Go.TypeDesc.interface #[("Error", 138)]) (cmpT Tryd.prog) false a13 (.ifc t_api_Code (.int .i64 6))).bind fun a15 =>
 endB false false n a15 H10 (E10 ++ (E8 ++ (E3 ++ []))))
 (endB false false n (.bool false) H10 (E10 ++ (E8 ++ (E3 ++ [])))))) (List.length H) = some r) : EV C n_law09_up [] H = some r :=
 EV_of_fnK' (fn := Tryd.f26) (by kernel_rfl) (by kernel_rfl) (by kernel_rfl) hh
end Go.Pm
