/- A part of the proof: what the functions of the program answer, as plain lists and numbers. -/
import Derived.Test.YtndkpoacbheemaaGreatP8
namespace Go.Pm
set_option linter.unusedVariables false
open Go.Proofs
variable {r : R3} {n : Nat} {H : List AObj} {E : List Nat}
set_option linter.unusedVariables false
set_option maxRecDepth 100000
theorem ref19_Run_top_of {x0 : AV} (hh : (fun n => (
 (nilA x0).bind fun a1 =>
 (offA a1 0).bind fun a2 =>
 (offA a2 5).bind fun a3 =>
 (loadA true 4 a3 H).bind fun a4 =>
 callK (EV C) false n_ref19_Run_last [x0] H fun a5 H5 E5 =>
 drawK (((loadA true 4 a3 H5).bind fun a6 =>
 some a6) = some a4)
 ((callD (EV C) n_ref18_Term [a4, a5] H5).bind fun a7 =>
 endB false false n a7 H5 (E5 ++ [])))) (List.length H) = some r) : EV C n_ref19_Run_top [x0] H = some r :=
 EV_of_fnK' (fn := Tryz.f80) (by kernel_rfl) (by kernel_rfl) (by kernel_rfl) hh
noncomputable def ref19_Run_take_J19 (n : Nat) (t0 t3 t4 t5 t8 t9 t10 t11 : AV) (H : List AObj) (E : List Nat) : Option R3 :=
 lK 81 Tryz.f81 [1, 1, 1, 1, 1, 1, 1, 0, 1, 0] n
 ⟨pat 146 [(0, t0), (3, t3), (4, t4), (5, t5), (8, t8), (9, t9), (10, t10), (11, t11)], H, E⟩
theorem ref19_Run_take_J19_of {t0 t3 t4 t5 t8 t9 t10 t11 : AV} (hh : (
 (lenV t5 H).bind fun a1 =>
 (binA .lss tI cT false t11 a1).bind fun a2 =>
 condK a2
 ((ixA 3 t5 t11 H).bind fun a3 =>
 (offA a3 0).bind fun a4 =>
 (loadA false 1 a4 H).bind fun a5 =>
 (offA t3 3).bind fun a6 =>
 (loadA false 1 a6 H).bind fun a7 =>
 (binA .gtr tI cT false a5 a7).bind fun a8 =>
 condK a8
 (endB false false n (.tup []) H E)
 ((binA .add tI cT true t11 (.int .i64 1)).bind fun a9 =>
 ref19_Run_take_J19 n t0 t3 t4 t5 t8 t9 t10 a9 H E))
 ((binA .neq tI cT true t10 z0).bind fun a10 =>
 splitK a10
 (endB false false n (.tup []) H E)
 ((nilA t0).bind fun a11 =>
 (offA a11 0).bind fun a12 =>
 (offA a12 9).bind fun a13 =>
 (loadA false 1 a13 H).bind fun a14 =>
 (binA .leq tI cT false t9 a14).bind fun a15 =>
 condK a15
 (endB false false n (.tup []) H E)
 ((loadA true 4 t8 H).bind fun a16 =>
 (nilA t0).bind fun a17 =>
 (offA a17 0).bind fun a18 =>
 (offA a18 5).bind fun a19 =>
 stoK 4 a19 a16 H fun H20 E20 =>
 (lenV t5 H20).bind fun a21 =>
 (binA .add tI cT false t4 a21).bind fun a22 =>
 (offA t3 6).bind fun a23 =>
 (loadA false 1 a23 H20).bind fun a24 =>
 (binA .gtr tI cT false a24 a22).bind fun a25 =>
 condK a25
 ((nilA t0).bind fun a26 =>
 (offA a26 0).bind fun a27 =>
 (offA a27 9).bind fun a28 =>
 (loadA false 1 a28 H20).bind fun a29 =>
 (binA .gtr tI cT false a22 a29).bind fun a30 =>
 condK a30
 ((nilA t0).bind fun a31 =>
 (offA a31 0).bind fun a32 =>
 (offA a32 9).bind fun a33 =>
 stoK 1 a33 a22 H20 fun H34 E34 =>
 (offA t3 1).bind fun a35 =>
 (loadA false 1 a35 H34).bind fun a36 =>
 (fillB (AV.cells (.agg [z0, z0, z0, z0, z0, z0, z0, (.bool false), .nils, .nils, z0, .nils, z0, .nils, .nils, .nils, .nils])) [(0, 1, (.int .i64 4)), (7, 1, (.bool true)), (4, 1, a22)]).bind fun c37 =>
 callK (EV C) false n_ref19_Run_say [t0, a36, (.agg c37)] H34 fun a38 H38 E38 =>
 endB false false n (.tup []) H38 (E38 ++ (E34 ++ (E20 ++ E))))
 ((offA t3 1).bind fun a39 =>
 (loadA false 1 a39 H20).bind fun a40 =>
 (fillB (AV.cells (.agg [z0, z0, z0, z0, z0, z0, z0, (.bool false), .nils, .nils, z0, .nils, z0, .nils, .nils, .nils, .nils])) [(0, 1, (.int .i64 4)), (7, 1, (.bool true)), (4, 1, a22)]).bind fun c41 =>
 callK (EV C) false n_ref19_Run_say [t0, a40, (.agg c41)] H20 fun a42 H42 E42 =>
 endB false false n (.tup []) H42 (E42 ++ (E20 ++ E))))
 ((nilA t0).bind fun a43 =>
 (offA a43 0).bind fun a44 =>
 (offA a44 9).bind fun a45 =>
 (loadA false 1 a45 H20).bind fun a46 =>
 (binA .gtr tI cT false a24 a46).bind fun a47 =>
 condK a47
 ((nilA t0).bind fun a48 =>
 (offA a48 0).bind fun a49 =>
 (offA a49 9).bind fun a50 =>
 stoK 1 a50 a24 H20 fun H51 E51 =>
 (offA t3 1).bind fun a52 =>
 (loadA false 1 a52 H51).bind fun a53 =>
 (fillB (AV.cells (.agg [z0, z0, z0, z0, z0, z0, z0, (.bool false), .nils, .nils, z0, .nils, z0, .nils, .nils, .nils, .nils])) [(0, 1, (.int .i64 4)), (7, 1, (.bool true)), (4, 1, a22)]).bind fun c54 =>
 callK (EV C) false n_ref19_Run_say [t0, a53, (.agg c54)] H51 fun a55 H55 E55 =>
 endB false false n (.tup []) H55 (E55 ++ (E51 ++ (E20 ++ E))))
 ((offA t3 1).bind fun a56 =>
 (loadA false 1 a56 H20).bind fun a57 =>
 (fillB (AV.cells (.agg [z0, z0, z0, z0, z0, z0, z0, (.bool false), .nils, .nils, z0, .nils, z0, .nils, .nils, .nils, .nils])) [(0, 1, (.int .i64 4)), (7, 1, (.bool true)), (4, 1, a22)]).bind fun c58 =>
 callK (EV C) false n_ref19_Run_say [t0, a57, (.agg c58)] H20 fun a59 H59 E59 =>
 endB false false n (.tup []) H59 (E59 ++ (E20 ++ E)))))))) = some r) : ref19_Run_take_J19 n t0 t3 t4 t5 t8 t9 t10 t11 H E = some r :=
 loop_step' (by kernel_rfl) hh
theorem ref19_Run_take_of {x0 x1 : AV} (hh : (fun n => (
 newK x1 H fun a1 H1 E1 =>
 (offA a1 1).bind fun a2 =>
 (loadA false 1 a2 H1).bind fun a3 =>
 callK (EV C) false n_ref19_Run_follow [x0, a3] H1 fun a4 H4 E4 =>
 (offA a1 4).bind fun a5 =>
 (loadA false 1 a5 H4).bind fun a6 =>
 (offA a1 8).bind fun a7 =>
 (loadA false 1 a7 H4).bind fun a8 =>
 (nilA x0).bind fun a9 =>
 (offA a9 0).bind fun a10 =>
 (offA a10 5).bind fun a11 =>
 (offA a11 0).bind fun a12 =>
 (offA a12 0).bind fun a13 =>
 (loadA false 1 a13 H4).bind fun a14 =>
 (binA .lss tI cT false a6 a14).bind fun a15 =>
 condK a15
 ((binA .sub tI cT false a14 a6).bind fun a16 =>
 (lenV a8 H4).bind fun a17 =>
 (binA .geq tI cT false a16 a17).bind fun a18 =>
 condK a18
 ((nilA x0).bind fun a19 =>
 (offA a19 0).bind fun a20 =>
 (offA a20 5).bind fun a21 =>
 (loadA true 4 a21 H4).bind fun a22 =>
 callK (EV C) false n_ref18_Merge [a22, a14, .nils] H4 fun a23 H23 E23 =>
 (extA a23 0).bind fun a24 =>
 (extA a23 1).bind fun a25 =>
 (extA a23 2).bind fun a26 =>
 newK (.agg [z0, z0, .nils, .nils]) H23 fun a27 H27 E27 =>
 stoK 4 a27 a24 H27 fun H28 E28 =>
 ref19_Run_take_J19 n x0 a1 a14 .nils a27 a25 a26 z0 H28 (E28 ++ (E27 ++ (E23 ++ (E4 ++ (E1 ++ []))))))
 ((binA .sub tI cT false a14 a6).bind fun a29 =>
 (cutA 3 a8 (some a29) none none H4).bind fun a30 =>
 (nilA x0).bind fun a31 =>
 (offA a31 0).bind fun a32 =>
 (offA a32 5).bind fun a33 =>
 (loadA true 4 a33 H4).bind fun a34 =>
 callK (EV C) false n_ref18_Merge [a34, a14, a30] H4 fun a35 H35 E35 =>
 (extA a35 0).bind fun a36 =>
 (extA a35 1).bind fun a37 =>
 (extA a35 2).bind fun a38 =>
 newK (.agg [z0, z0, .nils, .nils]) H35 fun a39 H39 E39 =>
 stoK 4 a39 a36 H39 fun H40 E40 =>
 ref19_Run_take_J19 n x0 a1 a14 a30 a39 a37 a38 z0 H40 (E40 ++ (E39 ++ (E35 ++ (E4 ++ (E1 ++ [])))))))
 (callK (EV C) false n_ref19_Run_last [x0] H4 fun a41 H41 E41 =>
 (binA .gtr tI cT false a6 a41).bind fun a42 =>
 splitK a42
 ((binA .sub tI cT true a6 (.int .i64 1)).bind fun a43 =>
 callK (EV C) false n_ref19_Run_last [x0] H41 fun a44 H44 E44 =>
 (binA .gtr tI cT false a43 a44).bind fun a45 =>
 condK a45
 (callK (EV C) false n_ref19_Run_last [x0] H44 fun a46 H46 E46 =>
 (binA .lss tI cT true a46 z0).bind fun a47 =>
 condK a47
 ((offA a1 1).bind fun a48 =>
 (loadA false 1 a48 H46).bind fun a49 =>
 (fillB (AV.cells (.agg [z0, z0, z0, z0, z0, z0, z0, (.bool false), .nils, .nils, z0, .nils, z0, .nils, .nils, .nils, .nils])) [(0, 1, (.int .i64 4)), (4, 1, z0)]).bind fun c50 =>
 callK (EV C) false n_ref19_Run_say [x0, a49, (.agg c50)] H46 fun a51 H51 E51 =>
 endB false false n (.tup []) H51 (E51 ++ (E46 ++ (E44 ++ (E41 ++ (E4 ++ (E1 ++ [])))))))
 ((offA a1 1).bind fun a52 =>
 (loadA false 1 a52 H46).bind fun a53 =>
 (fillB (AV.cells (.agg [z0, z0, z0, z0, z0, z0, z0, (.bool false), .nils, .nils, z0, .nils, z0, .nils, .nils, .nils, .nils])) [(0, 1, (.int .i64 4)), (4, 1, a46)]).bind fun c54 =>
 callK (EV C) false n_ref19_Run_say [x0, a53, (.agg c54)] H46 fun a55 H55 E55 =>
 endB false false n (.tup []) H55 (E55 ++ (E46 ++ (E44 ++ (E41 ++ (E4 ++ (E1 ++ []))))))))
 ((binA .lss tI cT true a43 z0).bind fun a56 =>
 condK a56
 ((offA a1 1).bind fun a57 =>
 (loadA false 1 a57 H44).bind fun a58 =>
 (fillB (AV.cells (.agg [z0, z0, z0, z0, z0, z0, z0, (.bool false), .nils, .nils, z0, .nils, z0, .nils, .nils, .nils, .nils])) [(0, 1, (.int .i64 4)), (4, 1, z0)]).bind fun c59 =>
 callK (EV C) false n_ref19_Run_say [x0, a58, (.agg c59)] H44 fun a60 H60 E60 =>
 endB false false n (.tup []) H60 (E60 ++ (E44 ++ (E41 ++ (E4 ++ (E1 ++ []))))))
 ((offA a1 1).bind fun a61 =>
 (loadA false 1 a61 H44).bind fun a62 =>
 (fillB (AV.cells (.agg [z0, z0, z0, z0, z0, z0, z0, (.bool false), .nils, .nils, z0, .nils, z0, .nils, .nils, .nils, .nils])) [(0, 1, (.int .i64 4)), (4, 1, a43)]).bind fun c63 =>
 callK (EV C) false n_ref19_Run_say [x0, a62, (.agg c63)] H44 fun a64 H64 E64 =>
 endB false false n (.tup []) H64 (E64 ++ (E44 ++ (E41 ++ (E4 ++ (E1 ++ []))))))))
 ((nilA x0).bind fun a65 =>
 (offA a65 0).bind fun a66 =>
 (offA a66 5).bind fun a67 =>
 (loadA true 4 a67 H41).bind fun a68 =>
 (callD (EV C) n_ref18_Term [a68, a6] H41).bind fun a69 =>
 (offA a1 5).bind fun a70 =>
 (loadA false 1 a70 H41).bind fun a71 =>
 (binA .neq tI cT false a69 a71).bind fun a72 =>
 condK a72
 ((binA .sub tI cT true a6 (.int .i64 1)).bind fun a73 =>
 callK (EV C) false n_ref19_Run_last [x0] H41 fun a74 H74 E74 =>
 (binA .gtr tI cT false a73 a74).bind fun a75 =>
 condK a75
 (callK (EV C) false n_ref19_Run_last [x0] H74 fun a76 H76 E76 =>
 (binA .lss tI cT true a76 z0).bind fun a77 =>
 condK a77
 ((offA a1 1).bind fun a78 =>
 (loadA false 1 a78 H76).bind fun a79 =>
 (fillB (AV.cells (.agg [z0, z0, z0, z0, z0, z0, z0, (.bool false), .nils, .nils, z0, .nils, z0, .nils, .nils, .nils, .nils])) [(0, 1, (.int .i64 4)), (4, 1, z0)]).bind fun c80 =>
 callK (EV C) false n_ref19_Run_say [x0, a79, (.agg c80)] H76 fun a81 H81 E81 =>
 endB false false n (.tup []) H81 (E81 ++ (E76 ++ (E74 ++ (E41 ++ (E4 ++ (E1 ++ [])))))))
 ((offA a1 1).bind fun a82 =>
 (loadA false 1 a82 H76).bind fun a83 =>
 (fillB (AV.cells (.agg [z0, z0, z0, z0, z0, z0, z0, (.bool false), .nils, .nils, z0, .nils, z0, .nils, .nils, .nils, .nils])) [(0, 1, (.int .i64 4)), (4, 1, a76)]).bind fun c84 =>
 callK (EV C) false n_ref19_Run_say [x0, a83, (.agg c84)] H76 fun a85 H85 E85 =>
 endB false false n (.tup []) H85 (E85 ++ (E76 ++ (E74 ++ (E41 ++ (E4 ++ (E1 ++ []))))))))
 ((binA .lss tI cT true a73 z0).bind fun a86 =>
 condK a86
 ((offA a1 1).bind fun a87 =>
 (loadA false 1 a87 H74).bind fun a88 =>
 (fillB (AV.cells (.agg [z0, z0, z0, z0, z0, z0, z0, (.bool false), .nils, .nils, z0, .nils, z0, .nils, .nils, .nils, .nils])) [(0, 1, (.int .i64 4)), (4, 1, z0)]).bind fun c89 =>
 callK (EV C) false n_ref19_Run_say [x0, a88, (.agg c89)] H74 fun a90 H90 E90 =>
 endB false false n (.tup []) H90 (E90 ++ (E74 ++ (E41 ++ (E4 ++ (E1 ++ []))))))
 ((offA a1 1).bind fun a91 =>
 (loadA false 1 a91 H74).bind fun a92 =>
 (fillB (AV.cells (.agg [z0, z0, z0, z0, z0, z0, z0, (.bool false), .nils, .nils, z0, .nils, z0, .nils, .nils, .nils, .nils])) [(0, 1, (.int .i64 4)), (4, 1, a73)]).bind fun c93 =>
 callK (EV C) false n_ref19_Run_say [x0, a92, (.agg c93)] H74 fun a94 H94 E94 =>
 endB false false n (.tup []) H94 (E94 ++ (E74 ++ (E41 ++ (E4 ++ (E1 ++ []))))))))
 ((nilA x0).bind fun a95 =>
 (offA a95 0).bind fun a96 =>
 (offA a96 5).bind fun a97 =>
 (loadA true 4 a97 H41).bind fun a98 =>
 callK (EV C) false n_ref18_Merge [a98, a6, a8] H41 fun a99 H99 E99 =>
 (extA a99 0).bind fun a100 =>
 (extA a99 1).bind fun a101 =>
 (extA a99 2).bind fun a102 =>
 newK (.agg [z0, z0, .nils, .nils]) H99 fun a103 H103 E103 =>
 stoK 4 a103 a100 H103 fun H104 E104 =>
 ref19_Run_take_J19 n x0 a1 a6 a8 a103 a101 a102 z0 H104 (E104 ++ (E103 ++ (E99 ++ (E41 ++ (E4 ++ (E1 ++ []))))))))))) (List.length H) = some r) : EV C n_ref19_Run_take [x0, x1] H = some r :=
 EV_of_fnK' (fn := Tryz.f81) (by kernel_rfl) (by kernel_rfl) (by kernel_rfl) hh
theorem ref19_Run_install_of {x0 x1 : AV} (hh : (fun n => (
 newK x1 H fun a1 H1 E1 =>
 (offA a1 9).bind fun a2 =>
 (loadA false 1 a2 H1).bind fun a3 =>
 callK (EV C) false n_ref17_May [a3] H1 fun a4 H4 E4 =>
 (nilA x0).bind fun a5 =>
 (offA a5 0).bind fun a6 =>
 (offA a6 3).bind fun a7 =>
 (loadA false 1 a7 H4).bind fun a8 =>
 (binA .eql tI cT true a8 (.int .i64 2)).bind fun a9 =>
 splitK a9
 (endB false false n (.tup []) H4 (E4 ++ (E1 ++ [])))
 ((unA .not a4).bind fun a10 =>
 splitK a10
 (endB false false n (.tup []) H4 (E4 ++ (E1 ++ [])))
 ((offA a1 5).bind fun a11 =>
 (loadA false 1 a11 H4).bind fun a12 =>
 (nilA x0).bind fun a13 =>
 (offA a13 0).bind fun a14 =>
 (offA a14 1).bind fun a15 =>
 (loadA false 1 a15 H4).bind fun a16 =>
 (binA .gtr tI cT false a12 a16).bind fun a17 =>
 condK a17
 (endB false false n (.tup []) H4 (E4 ++ (E1 ++ [])))
 ((offA a1 1).bind fun a18 =>
 (loadA false 1 a18 H4).bind fun a19 =>
 callK (EV C) false n_ref19_Run_follow [x0, a19] H4 fun a20 H20 E20 =>
 (offA a1 4).bind fun a21 =>
 (loadA false 1 a21 H20).bind fun a22 =>
 (nilA x0).bind fun a23 =>
 (offA a23 0).bind fun a24 =>
 (offA a24 9).bind fun a25 =>
 (loadA false 1 a25 H20).bind fun a26 =>
 (binA .leq tI cT false a22 a26).bind fun a27 =>
 condK a27
 ((offA a1 1).bind fun a28 =>
 (loadA false 1 a28 H20).bind fun a29 =>
 (nilA x0).bind fun a30 =>
 (offA a30 0).bind fun a31 =>
 (offA a31 9).bind fun a32 =>
 (loadA false 1 a32 H20).bind fun a33 =>
 (fillB (AV.cells (.agg [z0, z0, z0, z0, z0, z0, z0, (.bool false), .nils, .nils, z0, .nils, z0, .nils, .nils, .nils, .nils])) [(0, 1, (.int .i64 4)), (7, 1, (.bool true)), (4, 1, a33)]).bind fun c34 =>
 callK (EV C) false n_ref19_Run_say [x0, a29, (.agg c34)] H20 fun a35 H35 E35 =>
 endB false false n (.tup []) H35 (E35 ++ (E20 ++ (E4 ++ (E1 ++ [])))))
 ((offA a1 4).bind fun a36 =>
 (loadA false 1 a36 H20).bind fun a37 =>
 (offA a1 5).bind fun a38 =>
 (loadA false 1 a38 H20).bind fun a39 =>
 (offA a1 9).bind fun a40 =>
 (loadA false 1 a40 H20).bind fun a41 =>
 (fillB (AV.cells (.agg [z0, z0, .nils])) [(0, 1, a37), (1, 1, a39), (2, 1, a41)]).bind fun c42 =>
 (fillB (AV.cells (.agg [z0, z0, .nils, .nils])) [(0, 3, (.agg c42))]).bind fun c43 =>
 newK (.agg [z0, z0, .nils, .nils]) H20 fun a44 H44 E44 =>
 stoK 4 a44 (.agg c43) H44 fun H45 E45 =>
 (nilA x0).bind fun a46 =>
 (offA a46 0).bind fun a47 =>
 (offA a47 5).bind fun a48 =>
 (loadA true 4 a48 H45).bind fun a49 =>
 (offA a1 4).bind fun a50 =>
 (loadA false 1 a50 H45).bind fun a51 =>
 (callD (EV C) n_ref18_Has [a49, a51] H45).bind fun a52 =>
 splitK a52
 ((nilA x0).bind fun a53 =>
 (offA a53 0).bind fun a54 =>
 (offA a54 5).bind fun a55 =>
 (loadA true 4 a55 H45).bind fun a56 =>
 (offA a1 4).bind fun a57 =>
 (loadA false 1 a57 H45).bind fun a58 =>
 (callD (EV C) n_ref18_Term [a56, a58] H45).bind fun a59 =>
 (offA a1 5).bind fun a60 =>
 (loadA false 1 a60 H45).bind fun a61 =>
 (binA .eql tI cT false a59 a61).bind fun a62 =>
 condK a62
 ((nilA x0).bind fun a63 =>
 (offA a63 0).bind fun a64 =>
 (offA a64 5).bind fun a65 =>
 (loadA true 4 a65 H45).bind fun a66 =>
 (offA a1 4).bind fun a67 =>
 (loadA false 1 a67 H45).bind fun a68 =>
 (callD (EV C) n_ref18_Compact [a66, a68] H45).bind fun a69 =>
 (fldA false 1 3 a69).bind fun a70 =>
 (offA a44 3).bind fun a71 =>
 stoK 1 a71 a70 H45 fun H72 E72 =>
 (loadA true 4 a44 H72).bind fun a73 =>
 callK (EV C) false n_ref18_Check [a73] H72 fun a74 H74 E74 =>
 (unA .not a74).bind fun a75 =>
 condK a75
 (endB false false n (.tup []) H74 (E74 ++ (E72 ++ (E45 ++ (E44 ++ (E20 ++ (E4 ++ (E1 ++ []))))))))
 ((loadA true 4 a44 H74).bind fun a76 =>
 (nilA x0).bind fun a77 =>
 (offA a77 0).bind fun a78 =>
 (offA a78 5).bind fun a79 =>
 stoK 4 a79 a76 H74 fun H80 E80 =>
 (offA a1 4).bind fun a81 =>
 (loadA false 1 a81 H80).bind fun a82 =>
 (nilA x0).bind fun a83 =>
 (offA a83 0).bind fun a84 =>
 (offA a84 9).bind fun a85 =>
 stoK 1 a85 a82 H80 fun H86 E86 =>
 (offA a1 4).bind fun a87 =>
 (loadA false 1 a87 H86).bind fun a88 =>
 (nilA x0).bind fun a89 =>
 (offA a89 30).bind fun a90 =>
 stoK 1 a90 a88 H86 fun H91 E91 =>
 (offA a1 1).bind fun a92 =>
 (loadA false 1 a92 H91).bind fun a93 =>
 (offA a1 4).bind fun a94 =>
 (loadA false 1 a94 H91).bind fun a95 =>
 (fillB (AV.cells (.agg [z0, z0, z0, z0, z0, z0, z0, (.bool false), .nils, .nils, z0, .nils, z0, .nils, .nils, .nils, .nils])) [(0, 1, (.int .i64 4)), (7, 1, (.bool true)), (4, 1, a95)]).bind fun c96 =>
 callK (EV C) false n_ref19_Run_say [x0, a93, (.agg c96)] H91 fun a97 H97 E97 =>
 endB false false n (.tup []) H97 (E97 ++ (E91 ++ (E86 ++ (E80 ++ (E74 ++ (E72 ++ (E45 ++ (E44 ++ (E20 ++ (E4 ++ (E1 ++ [])))))))))))))
 ((loadA true 4 a44 H45).bind fun a98 =>
 callK (EV C) false n_ref18_Check [a98] H45 fun a99 H99 E99 =>
 (unA .not a99).bind fun a100 =>
 condK a100
 (endB false false n (.tup []) H99 (E99 ++ (E45 ++ (E44 ++ (E20 ++ (E4 ++ (E1 ++ [])))))))
 ((loadA true 4 a44 H99).bind fun a101 =>
 (nilA x0).bind fun a102 =>
 (offA a102 0).bind fun a103 =>
 (offA a103 5).bind fun a104 =>
 stoK 4 a104 a101 H99 fun H105 E105 =>
 (offA a1 4).bind fun a106 =>
 (loadA false 1 a106 H105).bind fun a107 =>
 (nilA x0).bind fun a108 =>
 (offA a108 0).bind fun a109 =>
 (offA a109 9).bind fun a110 =>
 stoK 1 a110 a107 H105 fun H111 E111 =>
 (offA a1 4).bind fun a112 =>
 (loadA false 1 a112 H111).bind fun a113 =>
 (nilA x0).bind fun a114 =>
 (offA a114 30).bind fun a115 =>
 stoK 1 a115 a113 H111 fun H116 E116 =>
 (offA a1 1).bind fun a117 =>
 (loadA false 1 a117 H116).bind fun a118 =>
 (offA a1 4).bind fun a119 =>
 (loadA false 1 a119 H116).bind fun a120 =>
 (fillB (AV.cells (.agg [z0, z0, z0, z0, z0, z0, z0, (.bool false), .nils, .nils, z0, .nils, z0, .nils, .nils, .nils, .nils])) [(0, 1, (.int .i64 4)), (7, 1, (.bool true)), (4, 1, a120)]).bind fun c121 =>
 callK (EV C) false n_ref19_Run_say [x0, a118, (.agg c121)] H116 fun a122 H122 E122 =>
 endB false false n (.tup []) H122 (E122 ++ (E116 ++ (E111 ++ (E105 ++ (E99 ++ (E45 ++ (E44 ++ (E20 ++ (E4 ++ (E1 ++ [])))))))))))))
 ((loadA true 4 a44 H45).bind fun a123 =>
 callK (EV C) false n_ref18_Check [a123] H45 fun a124 H124 E124 =>
 (unA .not a124).bind fun a125 =>
 condK a125
 (endB false false n (.tup []) H124 (E124 ++ (E45 ++ (E44 ++ (E20 ++ (E4 ++ (E1 ++ [])))))))
 ((loadA true 4 a44 H124).bind fun a126 =>
 (nilA x0).bind fun a127 =>
 (offA a127 0).bind fun a128 =>
 (offA a128 5).bind fun a129 =>
 stoK 4 a129 a126 H124 fun H130 E130 =>
 (offA a1 4).bind fun a131 =>
 (loadA false 1 a131 H130).bind fun a132 =>
 (nilA x0).bind fun a133 =>
 (offA a133 0).bind fun a134 =>
 (offA a134 9).bind fun a135 =>
 stoK 1 a135 a132 H130 fun H136 E136 =>
 (offA a1 4).bind fun a137 =>
 (loadA false 1 a137 H136).bind fun a138 =>
 (nilA x0).bind fun a139 =>
 (offA a139 30).bind fun a140 =>
 stoK 1 a140 a138 H136 fun H141 E141 =>
 (offA a1 1).bind fun a142 =>
 (loadA false 1 a142 H141).bind fun a143 =>
 (offA a1 4).bind fun a144 =>
 (loadA false 1 a144 H141).bind fun a145 =>
 (fillB (AV.cells (.agg [z0, z0, z0, z0, z0, z0, z0, (.bool false), .nils, .nils, z0, .nils, z0, .nils, .nils, .nils, .nils])) [(0, 1, (.int .i64 4)), (7, 1, (.bool true)), (4, 1, a145)]).bind fun c146 =>
 callK (EV C) false n_ref19_Run_say [x0, a143, (.agg c146)] H141 fun a147 H147 E147 =>
 endB false false n (.tup []) H147 (E147 ++ (E141 ++ (E136 ++ (E130 ++ (E124 ++ (E45 ++ (E44 ++ (E20 ++ (E4 ++ (E1 ++ [])))))))))))))))))) (List.length H) = some r) : EV C n_ref19_Run_install [x0, x1] H = some r :=
 EV_of_fnK' (fn := Tryz.f82) (by kernel_rfl) (by kernel_rfl) (by kernel_rfl) hh
theorem ref19_Run_acked_of {x0 x1 : AV} (hh : (fun n => (
 newK x1 H fun a1 H1 E1 =>
 (offA a1 1).bind fun a2 =>
 (loadA false 1 a2 H1).bind fun a3 =>
 (offA a1 7).bind fun a4 =>
 (loadA false 1 a4 H1).bind fun a5 =>
 (unA .not a5).bind fun a6 =>
 condK a6
 ((offA a1 4).bind fun a7 =>
 (loadA false 1 a7 H1).bind fun a8 =>
 (binA .add tI cT true a8 (.int .i64 1)).bind fun a9 =>
 (nilA x0).bind fun a10 =>
 (offA a10 0).bind fun a11 =>
 (offA a11 11).bind fun a12 =>
 (arA 8 1 a12 a3).bind fun a13 =>
 (loadA false 1 a13 H1).bind fun a14 =>
 (binA .sub tI cT true a14 (.int .i64 1)).bind fun a15 =>
 (binA .lss tI cT false a15 a9).bind fun a16 =>
 condK a16
 ((nilA x0).bind fun a17 =>
 (offA a17 0).bind fun a18 =>
 (offA a18 11).bind fun a19 =>
 (arA 8 1 a19 a3).bind fun a20 =>
 (loadA false 1 a20 H1).bind fun a21 =>
 (binA .sub tI cT true a21 (.int .i64 1)).bind fun a22 =>
 (nilA x0).bind fun a23 =>
 (offA a23 0).bind fun a24 =>
 (offA a24 19).bind fun a25 =>
 (arA 8 1 a25 a3).bind fun a26 =>
 (loadA false 1 a26 H1).bind fun a27 =>
 (binA .leq tI cT false a22 a27).bind fun a28 =>
 condK a28
 ((nilA x0).bind fun a29 =>
 (offA a29 0).bind fun a30 =>
 (offA a30 19).bind fun a31 =>
 (arA 8 1 a31 a3).bind fun a32 =>
 (loadA false 1 a32 H1).bind fun a33 =>
 (binA .add tI cT true a33 (.int .i64 1)).bind fun a34 =>
 (binA .gtr tI cT true a34 (.int .i64 1152921504606846976)).bind fun a35 =>
 condK a35
 ((nilA x0).bind fun a36 =>
 (offA a36 0).bind fun a37 =>
 (offA a37 11).bind fun a38 =>
 (arA 8 1 a38 a3).bind fun a39 =>
 stoK 1 a39 (.int .i64 1152921504606846976) H1 fun H40 E40 =>
 callK (EV C) false n_ref19_Run_sendTo [x0, a3] H40 fun a41 H41 E41 =>
 endB false false n (.tup []) H41 (E41 ++ (E40 ++ (E1 ++ []))))
 ((nilA x0).bind fun a42 =>
 (offA a42 0).bind fun a43 =>
 (offA a43 11).bind fun a44 =>
 (arA 8 1 a44 a3).bind fun a45 =>
 stoK 1 a45 a34 H1 fun H46 E46 =>
 callK (EV C) false n_ref19_Run_sendTo [x0, a3] H46 fun a47 H47 E47 =>
 endB false false n (.tup []) H47 (E47 ++ (E46 ++ (E1 ++ [])))))
 ((binA .gtr tI cT true a22 (.int .i64 1152921504606846976)).bind fun a48 =>
 condK a48
 ((nilA x0).bind fun a49 =>
 (offA a49 0).bind fun a50 =>
 (offA a50 11).bind fun a51 =>
 (arA 8 1 a51 a3).bind fun a52 =>
 stoK 1 a52 (.int .i64 1152921504606846976) H1 fun H53 E53 =>
 callK (EV C) false n_ref19_Run_sendTo [x0, a3] H53 fun a54 H54 E54 =>
 endB false false n (.tup []) H54 (E54 ++ (E53 ++ (E1 ++ []))))
 ((nilA x0).bind fun a55 =>
 (offA a55 0).bind fun a56 =>
 (offA a56 11).bind fun a57 =>
 (arA 8 1 a57 a3).bind fun a58 =>
 stoK 1 a58 a22 H1 fun H59 E59 =>
 callK (EV C) false n_ref19_Run_sendTo [x0, a3] H59 fun a60 H60 E60 =>
 endB false false n (.tup []) H60 (E60 ++ (E59 ++ (E1 ++ []))))))
 ((nilA x0).bind fun a61 =>
 (offA a61 0).bind fun a62 =>
 (offA a62 19).bind fun a63 =>
 (arA 8 1 a63 a3).bind fun a64 =>
 (loadA false 1 a64 H1).bind fun a65 =>
 (binA .leq tI cT false a9 a65).bind fun a66 =>
 condK a66
 ((nilA x0).bind fun a67 =>
 (offA a67 0).bind fun a68 =>
 (offA a68 19).bind fun a69 =>
 (arA 8 1 a69 a3).bind fun a70 =>
 (loadA false 1 a70 H1).bind fun a71 =>
 (binA .add tI cT true a71 (.int .i64 1)).bind fun a72 =>
 (binA .gtr tI cT true a72 (.int .i64 1152921504606846976)).bind fun a73 =>
 condK a73
 ((nilA x0).bind fun a74 =>
 (offA a74 0).bind fun a75 =>
 (offA a75 11).bind fun a76 =>
 (arA 8 1 a76 a3).bind fun a77 =>
 stoK 1 a77 (.int .i64 1152921504606846976) H1 fun H78 E78 =>
 callK (EV C) false n_ref19_Run_sendTo [x0, a3] H78 fun a79 H79 E79 =>
 endB false false n (.tup []) H79 (E79 ++ (E78 ++ (E1 ++ []))))
 ((nilA x0).bind fun a80 =>
 (offA a80 0).bind fun a81 =>
 (offA a81 11).bind fun a82 =>
 (arA 8 1 a82 a3).bind fun a83 =>
 stoK 1 a83 a72 H1 fun H84 E84 =>
 callK (EV C) false n_ref19_Run_sendTo [x0, a3] H84 fun a85 H85 E85 =>
 endB false false n (.tup []) H85 (E85 ++ (E84 ++ (E1 ++ [])))))
 ((binA .gtr tI cT true a9 (.int .i64 1152921504606846976)).bind fun a86 =>
 condK a86
 ((nilA x0).bind fun a87 =>
 (offA a87 0).bind fun a88 =>
 (offA a88 11).bind fun a89 =>
 (arA 8 1 a89 a3).bind fun a90 =>
 stoK 1 a90 (.int .i64 1152921504606846976) H1 fun H91 E91 =>
 callK (EV C) false n_ref19_Run_sendTo [x0, a3] H91 fun a92 H92 E92 =>
 endB false false n (.tup []) H92 (E92 ++ (E91 ++ (E1 ++ []))))
 ((nilA x0).bind fun a93 =>
 (offA a93 0).bind fun a94 =>
 (offA a94 11).bind fun a95 =>
 (arA 8 1 a95 a3).bind fun a96 =>
 stoK 1 a96 a9 H1 fun H97 E97 =>
 callK (EV C) false n_ref19_Run_sendTo [x0, a3] H97 fun a98 H98 E98 =>
 endB false false n (.tup []) H98 (E98 ++ (E97 ++ (E1 ++ [])))))))
 ((offA a1 4).bind fun a99 =>
 (loadA false 1 a99 H1).bind fun a100 =>
 callK (EV C) false n_ref19_Run_last [x0] H1 fun a101 H101 E101 =>
 drawK (((loadA false 1 a99 H101).bind fun a102 =>
 some a102) = some a100)
 ((binA .gtr tI cT false a100 a101).bind fun a103 =>
 condK a103
 (endB false false n (.tup []) H101 (E101 ++ (E1 ++ [])))
 ((offA a1 4).bind fun a104 =>
 (loadA false 1 a104 H101).bind fun a105 =>
 (nilA x0).bind fun a106 =>
 (offA a106 0).bind fun a107 =>
 (offA a107 19).bind fun a108 =>
 (arA 8 1 a108 a3).bind fun a109 =>
 (loadA false 1 a109 H101).bind fun a110 =>
 (binA .gtr tI cT false a105 a110).bind fun a111 =>
 condK a111
 ((offA a1 4).bind fun a112 =>
 (loadA false 1 a112 H101).bind fun a113 =>
 (nilA x0).bind fun a114 =>
 (offA a114 0).bind fun a115 =>
 (offA a115 19).bind fun a116 =>
 (arA 8 1 a116 a3).bind fun a117 =>
 stoK 1 a117 a113 H101 fun H118 E118 =>
 (nilA x0).bind fun a119 =>
 (offA a119 0).bind fun a120 =>
 (offA a120 19).bind fun a121 =>
 (arA 8 1 a121 a3).bind fun a122 =>
 (loadA false 1 a122 H118).bind fun a123 =>
 (binA .add tI cT true a123 (.int .i64 1)).bind fun a124 =>
 (nilA x0).bind fun a125 =>
 (offA a125 0).bind fun a126 =>
 (offA a126 11).bind fun a127 =>
 (arA 8 1 a127 a3).bind fun a128 =>
 stoK 1 a128 a124 H118 fun H129 E129 =>
 (nilA x0).bind fun a130 =>
 (offA a130 0).bind fun a131 =>
 (offA a131 11).bind fun a132 =>
 (arA 8 1 a132 a3).bind fun a133 =>
 (loadA false 1 a133 H129).bind fun a134 =>
 (binA .gtr tI cT true a134 (.int .i64 1152921504606846976)).bind fun a135 =>
 condK a135
 ((nilA x0).bind fun a136 =>
 (offA a136 0).bind fun a137 =>
 (offA a137 11).bind fun a138 =>
 (arA 8 1 a138 a3).bind fun a139 =>
 stoK 1 a139 (.int .i64 1152921504606846976) H129 fun H140 E140 =>
 callK (EV C) false n_ref19_Run_counts [x0] H140 fun a141 H141 E141 =>
 (nilA x0).bind fun a142 =>
 (offA a142 0).bind fun a143 =>
 (offA a143 3).bind fun a144 =>
 (loadA false 1 a144 H141).bind fun a145 =>
 (binA .eql tI cT true a145 (.int .i64 2)).bind fun a146 =>
 splitK a146
 ((nilA x0).bind fun a147 =>
 (offA a147 0).bind fun a148 =>
 (offA a148 11).bind fun a149 =>
 (arA 8 1 a149 a3).bind fun a150 =>
 (loadA false 1 a150 H141).bind fun a151 =>
 callK (EV C) false n_ref19_Run_last [x0] H141 fun a152 H152 E152 =>
 drawK (((arA 8 1 a149 a3).bind fun a153 =>
 some a153) = some a150)
 (drawK (((loadA false 1 a150 H152).bind fun a154 =>
 some a154) = some a151)
 ((binA .leq tI cT false a151 a152).bind fun a155 =>
 condK a155
 (callK (EV C) false n_ref19_Run_sendTo [x0, a3] H152 fun a156 H156 E156 =>
 endB false false n (.tup []) H156 (E156 ++ (E152 ++ (E141 ++ (E140 ++ (E129 ++ (E118 ++ (E101 ++ (E1 ++ [])))))))))
 (endB false false n (.tup []) H152 (E152 ++ (E141 ++ (E140 ++ (E129 ++ (E118 ++ (E101 ++ (E1 ++ [])))))))))))
 (endB false false n (.tup []) H141 (E141 ++ (E140 ++ (E129 ++ (E118 ++ (E101 ++ (E1 ++ []))))))))
 (callK (EV C) false n_ref19_Run_counts [x0] H129 fun a157 H157 E157 =>
 (nilA x0).bind fun a158 =>
 (offA a158 0).bind fun a159 =>
 (offA a159 3).bind fun a160 =>
 (loadA false 1 a160 H157).bind fun a161 =>
 (binA .eql tI cT true a161 (.int .i64 2)).bind fun a162 =>
 splitK a162
 ((nilA x0).bind fun a163 =>
 (offA a163 0).bind fun a164 =>
 (offA a164 11).bind fun a165 =>
 (arA 8 1 a165 a3).bind fun a166 =>
 (loadA false 1 a166 H157).bind fun a167 =>
 callK (EV C) false n_ref19_Run_last [x0] H157 fun a168 H168 E168 =>
 drawK (((arA 8 1 a165 a3).bind fun a169 =>
 some a169) = some a166)
 (drawK (((loadA false 1 a166 H168).bind fun a170 =>
 some a170) = some a167)
 ((binA .leq tI cT false a167 a168).bind fun a171 =>
 condK a171
 (callK (EV C) false n_ref19_Run_sendTo [x0, a3] H168 fun a172 H172 E172 =>
 endB false false n (.tup []) H172 (E172 ++ (E168 ++ (E157 ++ (E129 ++ (E118 ++ (E101 ++ (E1 ++ []))))))))
 (endB false false n (.tup []) H168 (E168 ++ (E157 ++ (E129 ++ (E118 ++ (E101 ++ (E1 ++ []))))))))))
 (endB false false n (.tup []) H157 (E157 ++ (E129 ++ (E118 ++ (E101 ++ (E1 ++ []))))))))
 ((nilA x0).bind fun a173 =>
 (offA a173 0).bind fun a174 =>
 (offA a174 19).bind fun a175 =>
 (arA 8 1 a175 a3).bind fun a176 =>
 (loadA false 1 a176 H101).bind fun a177 =>
 (binA .add tI cT true a177 (.int .i64 1)).bind fun a178 =>
 (nilA x0).bind fun a179 =>
 (offA a179 0).bind fun a180 =>
 (offA a180 11).bind fun a181 =>
 (arA 8 1 a181 a3).bind fun a182 =>
 stoK 1 a182 a178 H101 fun H183 E183 =>
 (nilA x0).bind fun a184 =>
 (offA a184 0).bind fun a185 =>
 (offA a185 11).bind fun a186 =>
 (arA 8 1 a186 a3).bind fun a187 =>
 (loadA false 1 a187 H183).bind fun a188 =>
 (binA .gtr tI cT true a188 (.int .i64 1152921504606846976)).bind fun a189 =>
 condK a189
 ((nilA x0).bind fun a190 =>
 (offA a190 0).bind fun a191 =>
 (offA a191 11).bind fun a192 =>
 (arA 8 1 a192 a3).bind fun a193 =>
 stoK 1 a193 (.int .i64 1152921504606846976) H183 fun H194 E194 =>
 callK (EV C) false n_ref19_Run_counts [x0] H194 fun a195 H195 E195 =>
 (nilA x0).bind fun a196 =>
 (offA a196 0).bind fun a197 =>
 (offA a197 3).bind fun a198 =>
 (loadA false 1 a198 H195).bind fun a199 =>
 (binA .eql tI cT true a199 (.int .i64 2)).bind fun a200 =>
 splitK a200
 ((nilA x0).bind fun a201 =>
 (offA a201 0).bind fun a202 =>
 (offA a202 11).bind fun a203 =>
 (arA 8 1 a203 a3).bind fun a204 =>
 (loadA false 1 a204 H195).bind fun a205 =>
 callK (EV C) false n_ref19_Run_last [x0] H195 fun a206 H206 E206 =>
 drawK (((arA 8 1 a203 a3).bind fun a207 =>
 some a207) = some a204)
 (drawK (((loadA false 1 a204 H206).bind fun a208 =>
 some a208) = some a205)
 ((binA .leq tI cT false a205 a206).bind fun a209 =>
 condK a209
 (callK (EV C) false n_ref19_Run_sendTo [x0, a3] H206 fun a210 H210 E210 =>
 endB false false n (.tup []) H210 (E210 ++ (E206 ++ (E195 ++ (E194 ++ (E183 ++ (E101 ++ (E1 ++ []))))))))
 (endB false false n (.tup []) H206 (E206 ++ (E195 ++ (E194 ++ (E183 ++ (E101 ++ (E1 ++ []))))))))))
 (endB false false n (.tup []) H195 (E195 ++ (E194 ++ (E183 ++ (E101 ++ (E1 ++ [])))))))
 (callK (EV C) false n_ref19_Run_counts [x0] H183 fun a211 H211 E211 =>
 (nilA x0).bind fun a212 =>
 (offA a212 0).bind fun a213 =>
 (offA a213 3).bind fun a214 =>
 (loadA false 1 a214 H211).bind fun a215 =>
 (binA .eql tI cT true a215 (.int .i64 2)).bind fun a216 =>
 splitK a216
 ((nilA x0).bind fun a217 =>
 (offA a217 0).bind fun a218 =>
 (offA a218 11).bind fun a219 =>
 (arA 8 1 a219 a3).bind fun a220 =>
 (loadA false 1 a220 H211).bind fun a221 =>
 callK (EV C) false n_ref19_Run_last [x0] H211 fun a222 H222 E222 =>
 drawK (((arA 8 1 a219 a3).bind fun a223 =>
 some a223) = some a220)
 (drawK (((loadA false 1 a220 H222).bind fun a224 =>
 some a224) = some a221)
 ((binA .leq tI cT false a221 a222).bind fun a225 =>
 condK a225
 (callK (EV C) false n_ref19_Run_sendTo [x0, a3] H222 fun a226 H226 E226 =>
 endB false false n (.tup []) H226 (E226 ++ (E222 ++ (E211 ++ (E183 ++ (E101 ++ (E1 ++ [])))))))
 (endB false false n (.tup []) H222 (E222 ++ (E211 ++ (E183 ++ (E101 ++ (E1 ++ [])))))))))
 (endB false false n (.tup []) H211 (E211 ++ (E183 ++ (E101 ++ (E1 ++ [])))))))))))) (List.length H) = some r) : EV C n_ref19_Run_acked [x0, x1] H = some r :=
 EV_of_fnK' (fn := Tryz.f83) (by kernel_rfl) (by kernel_rfl) (by kernel_rfl) hh
theorem ref19_Run_sendTo_of {x0 x1 : AV} (hh : (fun n => (
 (nilA x0).bind fun a1 =>
 (offA a1 0).bind fun a2 =>
 (offA a2 5).bind fun a3 =>
 (offA a3 0).bind fun a4 =>
 (loadA true 3 a4 H).bind fun a5 =>
 newK (.agg [z0, z0, .nils]) H fun a6 H6 E6 =>
 stoK 3 a6 a5 H6 fun H7 E7 =>
 (nilA x0).bind fun a8 =>
 (offA a8 0).bind fun a9 =>
 (offA a9 11).bind fun a10 =>
 (arA 8 1 a10 x1).bind fun a11 =>
 (loadA false 1 a11 H7).bind fun a12 =>
 (offA a6 0).bind fun a13 =>
 (loadA false 1 a13 H7).bind fun a14 =>
 (binA .leq tI cT false a12 a14).bind fun a15 =>
 condK a15
 ((offA a6 0).bind fun a16 =>
 (loadA false 1 a16 H7).bind fun a17 =>
 (offA a6 1).bind fun a18 =>
 (loadA false 1 a18 H7).bind fun a19 =>
 (offA a6 2).bind fun a20 =>
 (loadA false 1 a20 H7).bind fun a21 =>
 (fillB (AV.cells (.agg [z0, z0, z0, z0, z0, z0, z0, (.bool false), .nils, .nils, z0, .nils, z0, .nils, .nils, .nils, .nils])) [(0, 1, (.int .i64 5)), (4, 1, a17), (5, 1, a19), (9, 1, a21)]).bind fun c22 =>
 callK (EV C) false n_ref19_Run_say [x0, x1, (.agg c22)] H7 fun a23 H23 E23 =>
 endB false false n (.tup []) H23 (E23 ++ (E7 ++ (E6 ++ []))))
 ((nilA x0).bind fun a24 =>
 (offA a24 0).bind fun a25 =>
 (offA a25 11).bind fun a26 =>
 (arA 8 1 a26 x1).bind fun a27 =>
 (loadA false 1 a27 H7).bind fun a28 =>
 (binA .sub tI cT true a28 (.int .i64 1)).bind fun a29 =>
 callK (EV C) false n_ref19_Run_last [x0] H7 fun a30 H30 E30 =>
 (binA .gtr tI cT false a29 a30).bind fun a31 =>
 condK a31
 (callK (EV C) false n_ref19_Run_last [x0] H30 fun a32 H32 E32 =>
 (nilA x0).bind fun a33 =>
 (offA a33 0).bind fun a34 =>
 (offA a34 5).bind fun a35 =>
 (loadA true 4 a35 H32).bind fun a36 =>
 (callD (EV C) n_ref18_Term [a36, a32] H32).bind fun a37 =>
 (nilA x0).bind fun a38 =>
 (offA a38 0).bind fun a39 =>
 (offA a39 5).bind fun a40 =>
 (loadA true 4 a40 H32).bind fun a41 =>
 (binA .add tI cT true a32 (.int .i64 1)).bind fun a42 =>
 (callD (EV C) n_ref18_Slice [a41, a42, (.int .i64 8)] H32).bind fun a43 =>
 (nilA x0).bind fun a44 =>
 (offA a44 0).bind fun a45 =>
 (offA a45 9).bind fun a46 =>
 (loadA false 1 a46 H32).bind fun a47 =>
 (fillB (AV.cells (.agg [z0, z0, z0, z0, z0, z0, z0, (.bool false), .nils, .nils, z0, .nils, z0, .nils, .nils, .nils, .nils])) [(0, 1, (.int .i64 3)), (4, 1, a32), (5, 1, a37), (8, 1, a43), (6, 1, a47)]).bind fun c48 =>
 callK (EV C) false n_ref19_Run_say [x0, x1, (.agg c48)] H32 fun a49 H49 E49 =>
 endB false false n (.tup []) H49 (E49 ++ (E32 ++ (E30 ++ (E7 ++ (E6 ++ []))))))
 ((nilA x0).bind fun a50 =>
 (offA a50 0).bind fun a51 =>
 (offA a51 5).bind fun a52 =>
 (loadA true 4 a52 H30).bind fun a53 =>
 (callD (EV C) n_ref18_Term [a53, a29] H30).bind fun a54 =>
 (nilA x0).bind fun a55 =>
 (offA a55 0).bind fun a56 =>
 (offA a56 5).bind fun a57 =>
 (loadA true 4 a57 H30).bind fun a58 =>
 (binA .add tI cT true a29 (.int .i64 1)).bind fun a59 =>
 (callD (EV C) n_ref18_Slice [a58, a59, (.int .i64 8)] H30).bind fun a60 =>
 (nilA x0).bind fun a61 =>
 (offA a61 0).bind fun a62 =>
 (offA a62 9).bind fun a63 =>
 (loadA false 1 a63 H30).bind fun a64 =>
 (fillB (AV.cells (.agg [z0, z0, z0, z0, z0, z0, z0, (.bool false), .nils, .nils, z0, .nils, z0, .nils, .nils, .nils, .nils])) [(0, 1, (.int .i64 3)), (4, 1, a29), (5, 1, a54), (8, 1, a60), (6, 1, a64)]).bind fun c65 =>
 callK (EV C) false n_ref19_Run_say [x0, x1, (.agg c65)] H30 fun a66 H66 E66 =>
 endB false false n (.tup []) H66 (E66 ++ (E30 ++ (E7 ++ (E6 ++ [])))))))) (List.length H) = some r) : EV C n_ref19_Run_sendTo [x0, x1] H = some r :=
 EV_of_fnK' (fn := Tryz.f84) (by kernel_rfl) (by kernel_rfl) (by kernel_rfl) hh
noncomputable def ref18_Members_J3 (n : Nat) (t1 t2 t5 t6 : AV) (H : List AObj) (E : List Nat) : Option R3 :=
 lK 85 Tryz.f85 [1, 1, 0, 1, 0] n
 ⟨pat 45 [(1, t1), (2, t2), (5, t5), (6, t6)], H, E⟩
theorem ref18_Members_J3_of {t1 t2 t5 t6 : AV} (hh : (
 (offA t2 3).bind fun a1 =>
 (loadA false 1 a1 H).bind fun a2 =>
 (lenV a2 H).bind fun a3 =>
 (binA .lss tI cT false t6 a3).bind fun a4 =>
 splitK a4
 ((offA t2 0).bind fun a5 =>
 (offA a5 0).bind fun a6 =>
 (loadA false 1 a6 H).bind fun a7 =>
 (binA .add tI cT true a7 (.int .i64 1)).bind fun a8 =>
 (binA .add tI cT false a8 t6).bind fun a9 =>
 (binA .leq tI cT false a9 t1).bind fun a10 =>
 condK a10
 ((offA t2 3).bind fun a11 =>
 (loadA false 1 a11 H).bind fun a12 =>
 (ixA 3 a12 t6 H).bind fun a13 =>
 (offA a13 1).bind fun a14 =>
 (loadA false 1 a14 H).bind fun a15 =>
 (binA .eql tI cT true a15 (.int .i64 2)).bind fun a16 =>
 condK a16
 ((offA t2 3).bind fun a17 =>
 (loadA false 1 a17 H).bind fun a18 =>
 (ixA 3 a18 t6 H).bind fun a19 =>
 (offA a19 2).bind fun a20 =>
 (loadA false 1 a20 H).bind fun a21 =>
 callK (EV C) false n_ref17_Of [a21] H fun a22 H22 E22 =>
 (extA a22 0).bind fun a23 =>
 (extA a22 1).bind fun a24 =>
 (binA .add tI cT true t6 (.int .i64 1)).bind fun a25 =>
 ref18_Members_J3 n t1 t2 a23 a25 H22 ((E22 ++ []) ++ E))
 ((binA .add tI cT true t6 (.int .i64 1)).bind fun a26 =>
 ref18_Members_J3 n t1 t2 t5 a26 H E))
 (endB false false n t5 H E))
 (endB false false n t5 H E)) = some r) : ref18_Members_J3 n t1 t2 t5 t6 H E = some r :=
 loop_step' (by kernel_rfl) hh
theorem ref18_Members_of {x0 x1 : AV} (hh : (fun n => (
 newK x0 H fun a1 H1 E1 =>
 (offA a1 0).bind fun a2 =>
 (offA a2 2).bind fun a3 =>
 (loadA false 1 a3 H1).bind fun a4 =>
 ref18_Members_J3 n x1 a1 a4 z0 H1 (E1 ++ []))) (List.length H) = some r) : EV C n_ref18_Members [x0, x1] H = some r :=
 EV_of_fnK' (fn := Tryz.f85) (by kernel_rfl) (by kernel_rfl) (by kernel_rfl) hh
theorem log_Slice_of {x0 x1 x2 : AV} (hh : (fun n => (
 newK x0 H fun a1 H1 E1 =>
 (loadA true 4 a1 H1).bind fun a2 =>
 callK (EV C) false n_log_asked [a2, x1] H1 fun a3 H3 E3 =>
 (binA .neq (Go.TypeDesc.interface #[("Error", 121)]) cT true a3 .nili).bind fun a4 =>
 splitK a4
 (endB false false n .nils H3 (E3 ++ (E1 ++ [])))
 ((offA a1 0).bind fun a5 =>
 (offA a5 0).bind fun a6 =>
 (loadA false 1 a6 H3).bind fun a7 =>
 (binA .eql tI cT false x1 a7).bind fun a8 =>
 splitK a8
 (endB false false n .nils H3 (E3 ++ (E1 ++ [])))
 ((binA .lss tI cT true x2 (.int .i64 1)).bind fun a9 =>
 condK a9
 (endB false false n .nils H3 (E3 ++ (E1 ++ [])))
 ((offA a1 3).bind fun a10 =>
 (loadA false 1 a10 H3).bind fun a11 =>
 (offA a1 0).bind fun a12 =>
 (offA a12 0).bind fun a13 =>
 (loadA false 1 a13 H3).bind fun a14 =>
 (binA .sub tI cT false x1 a14).bind fun a15 =>
 (binA .sub tI cT true a15 (.int .i64 1)).bind fun a16 =>
 (cutA 3 a11 (some a16) none none H3).bind fun a17 =>
 (lenV a17 H3).bind fun a18 =>
 (minA [x2, a18]).bind fun a19 =>
 (cutA 3 a17 none (some a19) none H3).bind fun a20 =>
 callK (EV C) false n_Clone_api_Entry [a20] H3 fun a21 H21 E21 =>
 endB false false n a21 H21 (E21 ++ (E3 ++ (E1 ++ [])))))))) (List.length H) = some r) : EV C n_log_Slice [x0, x1, x2] H = some r :=
 EV_of_fnK' (fn := Tryz.f86) (by kernel_rfl) (by kernel_rfl) (by kernel_rfl) hh
theorem raft_stepper_stands_1_of {x0 x1 x2 x3 : AV} (hh : (fun n => (
 (loadA false 1 x1 H).bind fun a1 =>
 (loadA false 1 x2 H).bind fun a2 =>
 (loadA false 1 x3 H).bind fun a3 =>
 (fillB (AV.cells (.agg [z0, z0, z0, z0, z0, z0, z0, (.bool false), .nils, .nils, z0, .nils, z0, .nils, .nils, .nils, .nils])) [(0, 1, (.int .i64 1)), (4, 1, a2), (5, 1, a3)]).bind fun c4 =>
 callK (EV C) false n_raft_stepper_send [a1, x0, (.agg c4)] H fun a5 H5 E5 =>
 endB false false n (.tup []) H5 (E5 ++ []))) (List.length H) = some r) : EV C n_raft_stepper_stands_1 [x0, x1, x2, x3] H = some r :=
 EV_of_fnK' (fn := Tryz.f87) (by kernel_rfl) (by kernel_rfl) (by kernel_rfl) hh
theorem raft_stepper_follows_of {x0 x1 : AV} (hh : (fun n => (
 (nilA x0).bind fun a1 =>
 (offA a1 0).bind fun a2 =>
 (offA a2 3).bind fun a3 =>
 stoK 1 a3 z0 H fun H4 E4 =>
 (nilA x0).bind fun a5 =>
 (offA a5 0).bind fun a6 =>
 (offA a6 4).bind fun a7 =>
 stoK 1 a7 x1 H4 fun H8 E8 =>
 (nilA x0).bind fun a9 =>
 (offA a9 0).bind fun a10 =>
 (offA a10 10).bind fun a11 =>
 stoK 1 a11 .nils H8 fun H12 E12 =>
 (nilA x0).bind fun a13 =>
 (offA a13 0).bind fun a14 =>
 (offA a14 27).bind fun a15 =>
 stoK 1 a15 z0 H12 fun H16 E16 =>
 endB false false n (.tup []) H16 (E16 ++ (E12 ++ (E8 ++ (E4 ++ [])))))) (List.length H) = some r) : EV C n_raft_stepper_follows [x0, x1] H = some r :=
 EV_of_fnK' (fn := Tryz.f88) (by kernel_rfl) (by kernel_rfl) (by kernel_rfl) hh
noncomputable def log_Merge_J5 (n : Nat) (t1 t2 t3 t6 t22 t23 t24 : AV) (H : List AObj) (E : List Nat) : Option R3 :=
 lK 89 Tryz.f89 [1, 1, 0, 1, 0] n
 ⟨pat 75 [(1, t1), (2, t2), (3, t3), (6, t6), (22, t22), (23, t23), (24, t24)], H, E⟩
theorem log_Merge_J5_of {t1 t2 t3 t6 t22 t23 t24 : AV} (hh : (
 (binA .lss tI cT false t24 t23).bind fun a1 =>
 condK a1
 ((ixA 3 t22 t24 H).bind fun a2 =>
 (loadA true 3 a2 H).bind fun a3 =>
 newK (.agg [z0, z0, .nils]) H fun a4 H4 E4 =>
 stoK 3 a4 a3 H4 fun H5 E5 =>
 (binA .add tI cT true t1 (.int .i64 1)).bind fun a6 =>
 (binA .add tI cT false a6 t24).bind fun a7 =>
 (loadA true 4 t3 H5).bind fun a8 =>
 (callD (EV C) n_log_last [a8] H5).bind fun a9 =>
 (binA .leq tI cT false a7 a9).bind fun a10 =>
 splitK a10
 ((loadA true 4 t3 H5).bind fun a11 =>
 (callD (EV C) n_log_term [a11, a7] H5).bind fun a12 =>
 (offA a4 0).bind fun a13 =>
 (loadA false 1 a13 H5).bind fun a14 =>
 (binA .eql tI cT false a12 a14).bind fun a15 =>
 condK a15
 ((binA .add tI cT true t24 (.int .i64 1)).bind fun a16 =>
 condB (List.all (E5 ++ (E4 ++ [])) (fun e => decide (List.length H ≤ e)) && (AV.bel (List.length H) t1 && (AV.bel (List.length H) t2 && (AV.bel (List.length H) t3 && (AV.bel (List.length H) t6 && (AV.bel (List.length H) t22 && (AV.bel (List.length H) t23 && (AV.bel (List.length H) a16 && true))))))))
 (log_Merge_J5 n t1 t2 t3 t6 t22 t23 a16 (List.take (List.length H) H5) E))
 ((offA t3 0).bind fun a17 =>
 (loadA true 3 a17 H5).bind fun a18 =>
 (offA t3 3).bind fun a19 =>
 (loadA false 1 a19 H5).bind fun a20 =>
 (offA t3 0).bind fun a21 =>
 (offA a21 0).bind fun a22 =>
 (loadA false 1 a22 H5).bind fun a23 =>
 (binA .sub tI cT false a7 a23).bind fun a24 =>
 (binA .sub tI cT true a24 (.int .i64 1)).bind fun a25 =>
 (cutA 3 a20 none (some a25) none H5).bind fun a26 =>
 (cutA 3 t2 (some t24) none none H5).bind fun a27 =>
 (litD 1 2 .nils [(0, a26), (1, a27)] H5).bind fun a28 =>
 (callD (EV C) n_Concat_api_Entry [a28] H5).bind fun a29 =>
 (fillB (AV.cells (.agg [z0, z0, .nils, .nils])) [(0, 3, a18), (3, 1, a29)]).bind fun c30 =>
 newK (.agg [z0, z0, .nils, .nils]) H5 fun a31 H31 E31 =>
 drawK (((loadA true 3 a17 H31).bind fun a32 =>
 some a32) = some a18)
 (drawK (((loadA false 1 a19 H31).bind fun a33 =>
 some a33) = some a20)
 (drawK (((loadA false 1 a22 H31).bind fun a34 =>
 some a34) = some a23)
 (drawK (((cutA 3 a20 none (some a25) none H31).bind fun a35 =>
 some a35) = some a26)
 (drawK (((cutA 3 t2 (some t24) none none H31).bind fun a36 =>
 some a36) = some a27)
 (drawK (((litD 1 2 .nils [(0, a26), (1, a27)] H31).bind fun a37 =>
 some a37) = some a28)
 (drawK (((callD (EV C) n_Concat_api_Entry [a28] H31).bind fun a38 =>
 some a38) = some a29)
 (stoK 4 a31 (.agg c30) H31 fun H39 E39 =>
 (loadA true 4 a31 H39).bind fun a40 =>
 callK (EV C) false n_log_Check [a40] H39 fun a41 H41 E41 =>
 (binA .neq (Go.TypeDesc.interface #[("Error", 121)]) cT true a41 .nili).bind fun a42 =>
 condK a42
 ((fillB (AV.cells (.agg [z0, z0, .nils, .nils])) []).bind fun c43 =>
 stoK 4 t6 (.agg c43) H41 fun H44 E44 =>
 (loadA true 4 t6 H44).bind fun a45 =>
 endB false false n (.tup [a45, z0, a41]) H44 ((E44 ++ (E41 ++ (E39 ++ (E31 ++ (E5 ++ (E4 ++ [])))))) ++ E))
 ((loadA true 4 a31 H41).bind fun a46 =>
 stoK 4 t6 a46 H41 fun H47 E47 =>
 (loadA true 4 t6 H47).bind fun a48 =>
 endB false false n (.tup [a48, a7, .nili]) H47 ((E47 ++ (E41 ++ (E39 ++ (E31 ++ (E5 ++ (E4 ++ [])))))) ++ E)))))))))))
 ((offA t3 0).bind fun a49 =>
 (loadA true 3 a49 H5).bind fun a50 =>
 (offA t3 3).bind fun a51 =>
 (loadA false 1 a51 H5).bind fun a52 =>
 (offA t3 0).bind fun a53 =>
 (offA a53 0).bind fun a54 =>
 (loadA false 1 a54 H5).bind fun a55 =>
 (binA .sub tI cT false a7 a55).bind fun a56 =>
 (binA .sub tI cT true a56 (.int .i64 1)).bind fun a57 =>
 (cutA 3 a52 none (some a57) none H5).bind fun a58 =>
 (cutA 3 t2 (some t24) none none H5).bind fun a59 =>
 (litD 1 2 .nils [(0, a58), (1, a59)] H5).bind fun a60 =>
 (callD (EV C) n_Concat_api_Entry [a60] H5).bind fun a61 =>
 (fillB (AV.cells (.agg [z0, z0, .nils, .nils])) [(0, 3, a50), (3, 1, a61)]).bind fun c62 =>
 newK (.agg [z0, z0, .nils, .nils]) H5 fun a63 H63 E63 =>
 drawK (((loadA true 3 a49 H63).bind fun a64 =>
 some a64) = some a50)
 (drawK (((loadA false 1 a51 H63).bind fun a65 =>
 some a65) = some a52)
 (drawK (((loadA false 1 a54 H63).bind fun a66 =>
 some a66) = some a55)
 (drawK (((cutA 3 a52 none (some a57) none H63).bind fun a67 =>
 some a67) = some a58)
 (drawK (((cutA 3 t2 (some t24) none none H63).bind fun a68 =>
 some a68) = some a59)
 (drawK (((litD 1 2 .nils [(0, a58), (1, a59)] H63).bind fun a69 =>
 some a69) = some a60)
 (drawK (((callD (EV C) n_Concat_api_Entry [a60] H63).bind fun a70 =>
 some a70) = some a61)
 (stoK 4 a63 (.agg c62) H63 fun H71 E71 =>
 (loadA true 4 a63 H71).bind fun a72 =>
 callK (EV C) false n_log_Check [a72] H71 fun a73 H73 E73 =>
 (binA .neq (Go.TypeDesc.interface #[("Error", 121)]) cT true a73 .nili).bind fun a74 =>
 condK a74
 ((fillB (AV.cells (.agg [z0, z0, .nils, .nils])) []).bind fun c75 =>
 stoK 4 t6 (.agg c75) H73 fun H76 E76 =>
 (loadA true 4 t6 H76).bind fun a77 =>
 endB false false n (.tup [a77, z0, a73]) H76 ((E76 ++ (E73 ++ (E71 ++ (E63 ++ (E5 ++ (E4 ++ [])))))) ++ E))
 ((loadA true 4 a63 H73).bind fun a78 =>
 stoK 4 t6 a78 H73 fun H79 E79 =>
 (loadA true 4 t6 H79).bind fun a80 =>
 endB false false n (.tup [a80, a7, .nili]) H79 ((E79 ++ (E73 ++ (E71 ++ (E63 ++ (E5 ++ (E4 ++ [])))))) ++ E)))))))))))
 ((loadA true 4 t3 H).bind fun a81 =>
 (loadA true 4 t3 H).bind fun a82 =>
 (callD (EV C) n_log_last [a82] H).bind fun a83 =>
 (binA .add tI cT true a83 (.int .i64 1)).bind fun a84 =>
 stoK 4 t6 a81 H fun H85 E85 =>
 (loadA true 4 t6 H85).bind fun a86 =>
 endB false false n (.tup [a86, a84, .nili]) H85 (E85 ++ E))) = some r) : log_Merge_J5 n t1 t2 t3 t6 t22 t23 t24 H E = some r :=
 loop_step' (by kernel_rfl) hh
theorem log_Merge_of {x0 x1 x2 : AV} (hh : (fun n => (
 newK x0 H fun a1 H1 E1 =>
 newK (.agg [z0, z0, .nils, .nils]) H1 fun a2 H2 E2 =>
 (loadA true 4 a1 H2).bind fun a3 =>
 callK (EV C) false n_log_asked [a3, x1] H2 fun a4 H4 E4 =>
 (binA .neq (Go.TypeDesc.interface #[("Error", 121)]) cT true a4 .nili).bind fun a5 =>
 condK a5
 ((fillB (AV.cells (.agg [z0, z0, .nils, .nils])) []).bind fun c6 =>
 stoK 4 a2 (.agg c6) H4 fun H7 E7 =>
 (loadA true 4 a2 H7).bind fun a8 =>
 endB false false n (.tup [a8, z0, a4]) H7 (E7 ++ (E4 ++ (E2 ++ (E1 ++ [])))))
 ((lenV x2 H4).bind fun a9 =>
 log_Merge_J5 n x1 x2 a1 a2 x2 a9 z0 H4 (E4 ++ (E2 ++ (E1 ++ [])))))) (List.length H) = some r) : EV C n_log_Merge [x0, x1, x2] H = some r :=
 EV_of_fnK' (fn := Tryz.f89) (by kernel_rfl) (by kernel_rfl) (by kernel_rfl) hh
theorem ContainsFunc_api_Entry_of {x0 x1 : AV} (hh : (fun n => (
 callK (EV C) false n_IndexFunc_api_Entry [x0, x1] H fun a1 H1 E1 =>
 (binA .geq tI cT true a1 z0).bind fun a2 =>
 endB false false n a2 H1 (E1 ++ []))) (List.length H) = some r) : EV C n_ContainsFunc_api_Entry [x0, x1] H = some r :=
 EV_of_fnK' (fn := Tryz.f90) (by kernel_rfl) (by kernel_rfl) (by kernel_rfl) hh
end Go.Pm
