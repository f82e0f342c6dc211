/- A part of the proof: what the functions of the program answer, as plain lists and numbers. -/
import Derived.Test.YtndkpoacbheemaaGreatP8
namespace Go.Pm
set_option linter.unusedVariables false
open Go.Proofs
variable {r : R3} {n : Nat} {H : List AObj} {E : List Nat}
set_option linter.unusedVariables false
set_option maxRecDepth 100000
noncomputable def law19_up_J3 (n : Nat) (t1 t2 t3 : AV) (H : List AObj) (E : List Nat) : Option R3 :=
 lK 5 Tryz.f5 [1, 1, 0, 1, 0] n
 ⟨pat 69 [(1, t1), (2, t2), (3, t3)], H, E⟩
theorem law19_up_J3_of {t1 t2 t3 : AV} (hh : (
 (binA .lss tI cT true t3 (.int .i64 10)).bind fun a1 =>
 condK a1
 ((loadA true 29 t1 H).bind fun a2 =>
 (fillB (AV.cells (.agg [z0, z0, z0, z0, z0, z0, z0, z0, z0, z0, (.bool false), .nils, .nils, z0, .nils, z0, .nils, .nils, .nils, .nils, .nils, .nils])) [(0, 1, z0)]).bind fun c3 =>
 callK (EV C) false n_raft_Step [a2, (.agg c3)] H fun a4 H4 E4 =>
 (extA a4 0).bind fun a5 =>
 (extA a4 1).bind fun a6 =>
 (extA a4 2).bind fun a7 =>
 (extA a4 3).bind fun a8 =>
 newK (.agg [z0, z0, z0, z0, z0, z0, z0, .nils, .nils, z0, .nils, z0, z0, z0, z0, z0, z0, z0, z0, z0, z0, z0, z0, z0, z0, z0, z0, z0, z0]) H4 fun a9 H9 E9 =>
 stoK 29 a9 a5 H9 fun H10 E10 =>
 (binA .neq (Go.TypeDesc.interface #[("Error", 121)]) cT true a8 .nili).bind fun a11 =>
 condK a11
 (endB false false n (.bool false) H10 ((E10 ++ (E9 ++ (E4 ++ []))) ++ E))
 ((loadA true 29 a9 H10).bind fun a12 =>
 stoK 29 t1 a12 H10 fun H13 E13 =>
 (binA .add tI cT true t3 (.int .i64 1)).bind fun a14 =>
 condB (List.all (E13 ++ (E10 ++ (E9 ++ (E4 ++ [])))) (fun e => decide (List.length H ≤ e)) && (AV.bel (List.length H) t1 && (AV.bel (List.length H) t2 && (AV.bel (List.length H) a14 && true))))
 (law19_up_J3 n t1 t2 a14 (List.take (List.length H) H13) E)))
 ((loadA true 29 t1 H).bind fun a15 =>
 rawK 1 1 (.int .u8 0) [(0, (.int .u8 97))] H fun a16 H16 E16 =>
 (cvR a16 H16).bind fun a17 =>
 (fillB (AV.cells (.agg [z0, z0, z0, z0, z0, z0, z0, z0, z0, z0, (.bool false), .nils, .nils, z0, .nils, z0, .nils, .nils, .nils, .nils, .nils, .nils])) [(0, 1, (.int .i64 2)), (20, 1, a17)]).bind fun c18 =>
 callK (EV C) false n_raft_Step [a15, (.agg c18)] H16 fun a19 H19 E19 =>
 (extA a19 0).bind fun a20 =>
 (extA a19 1).bind fun a21 =>
 (extA a19 2).bind fun a22 =>
 (extA a19 3).bind fun a23 =>
 newK (.agg [z0, z0, z0, z0, z0, z0, z0, .nils, .nils, z0, .nils, z0, z0, z0, z0, z0, z0, z0, z0, z0, z0, z0, z0, z0, z0, z0, z0, z0, z0]) H19 fun a24 H24 E24 =>
 stoK 29 a24 a20 H24 fun H25 E25 =>
 (binA .eql (Go.TypeDesc.interface #[("Error", 121)]) cT true t2 .nili).bind fun a26 =>
 splitK a26
 ((offA t1 3).bind fun a27 =>
 (loadA false 1 a27 H25).bind fun a28 =>
 (binA .eql tI cT true a28 (.int .i64 2)).bind fun a29 =>
 splitK a29
 ((offA t1 9).bind fun a30 =>
 (loadA false 1 a30 H25).bind fun a31 =>
 (binA .eql tI cT true a31 (.int .i64 1)).bind fun a32 =>
 splitK a32
 ((binA .eql (Go.TypeDesc.interface #[("Error", 121)]) cT true a23 .nili).bind fun a33 =>
 splitK a33
 ((binA .eql tI cT true a22 (.int .i64 2)).bind fun a34 =>
 splitK a34
 ((offA a24 9).bind fun a35 =>
 (loadA false 1 a35 H25).bind fun a36 =>
 (binA .eql tI cT true a36 (.int .i64 2)).bind fun a37 =>
 endB false false n a37 H25 (E25 ++ (E24 ++ (E19 ++ (E16 ++ E)))))
 (endB false false n (.bool false) H25 (E25 ++ (E24 ++ (E19 ++ (E16 ++ E))))))
 (endB false false n (.bool false) H25 (E25 ++ (E24 ++ (E19 ++ (E16 ++ E))))))
 (endB false false n (.bool false) H25 (E25 ++ (E24 ++ (E19 ++ (E16 ++ E))))))
 (endB false false n (.bool false) H25 (E25 ++ (E24 ++ (E19 ++ (E16 ++ E))))))
 (endB false false n (.bool false) H25 (E25 ++ (E24 ++ (E19 ++ (E16 ++ E))))))) = some r) : law19_up_J3 n t1 t2 t3 H E = some r :=
 loop_step' (by kernel_rfl) hh
theorem law19_up_of (hh : (fun n => (
 litK 1 1 z0 [(0, (.int .i64 1))] H fun a1 H1 E1 =>
 (fillB (AV.cells (.agg [z0, z0, .nils])) [(2, 1, a1)]).bind fun c2 =>
 (fillB (AV.cells (.agg [z0, z0, .nils, .nils])) [(0, 3, (.agg c2))]).bind fun c3 =>
 callK (EV C) false n_raft_New [(.int .i64 1), z0, z0, (.agg c3), z0] H1 fun a4 H4 E4 =>
 (extA a4 0).bind fun a5 =>
 (extA a4 1).bind fun a6 =>
 newK (.agg [z0, z0, z0, z0, z0, z0, z0, .nils, .nils, z0, .nils, z0, z0, z0, z0, z0, z0, z0, z0, z0, z0, z0, z0, z0, z0, z0, z0, z0, z0]) H4 fun a7 H7 E7 =>
 stoK 29 a7 a5 H7 fun H8 E8 =>
 law19_up_J3 n a7 a6 z0 H8 (E8 ++ (E7 ++ (E4 ++ (E1 ++ [])))))) (List.length H) = some r) : EV C n_law19_up [] H = some r :=
 EV_of_fnK' (fn := Tryz.f5) (by kernel_rfl) (by kernel_rfl) (by kernel_rfl) hh
theorem ref19_Light_of {x0 x1 : AV} (hh : (fun n => (
 newK x0 H fun a1 H1 E1 =>
 newK x1 H1 fun a2 H2 E2 =>
 (offA a1 5).bind fun a3 =>
 (loadA true 4 a3 H2).bind fun a4 =>
 callK (EV C) false n_ref18_Light [a4] H2 fun a5 H5 E5 =>
 (offA a2 3).bind fun a6 =>
 (offA a6 8).bind fun a7 =>
 (loadA false 1 a7 H5).bind fun a8 =>
 (fillB (AV.cells (.agg [z0, z0, .nils, .nils])) [(3, 1, a8)]).bind fun c9 =>
 callK (EV C) false n_ref18_Light [(.agg c9)] H5 fun a10 H10 E10 =>
 splitK a5
 (splitK a10
 ((offA a1 10).bind fun a11 =>
 (loadA false 1 a11 H10).bind fun a12 =>
 (lenV a12 H10).bind fun a13 =>
 (binA .lss tI cT true a13 (.int .i64 100)).bind fun a14 =>
 splitK a14
 ((offA a2 20).bind fun a15 =>
 (loadA false 1 a15 H10).bind fun a16 =>
 (lenV a16 H10).bind fun a17 =>
 (binA .lss tI cT true a17 (.int .i64 10000)).bind fun a18 =>
 splitK a18
 ((offA a2 21).bind fun a19 =>
 (loadA false 1 a19 H10).bind fun a20 =>
 (lenV a20 H10).bind fun a21 =>
 (binA .lss tI cT true a21 (.int .i64 100)).bind fun a22 =>
 splitK a22
 ((offA a2 3).bind fun a23 =>
 (offA a23 9).bind fun a24 =>
 (loadA false 1 a24 H10).bind fun a25 =>
 (lenV a25 H10).bind fun a26 =>
 (binA .lss tI cT true a26 (.int .i64 100)).bind fun a27 =>
 endB false false n a27 H10 (E10 ++ (E5 ++ (E2 ++ (E1 ++ [])))))
 (endB false false n (.bool false) H10 (E10 ++ (E5 ++ (E2 ++ (E1 ++ []))))))
 (endB false false n (.bool false) H10 (E10 ++ (E5 ++ (E2 ++ (E1 ++ []))))))
 (endB false false n (.bool false) H10 (E10 ++ (E5 ++ (E2 ++ (E1 ++ []))))))
 (endB false false n (.bool false) H10 (E10 ++ (E5 ++ (E2 ++ (E1 ++ []))))))
 (endB false false n (.bool false) H10 (E10 ++ (E5 ++ (E2 ++ (E1 ++ []))))))) (List.length H) = some r) : EV C n_ref19_Light [x0, x1] H = some r :=
 EV_of_fnK' (fn := Tryz.f6) (by kernel_rfl) (by kernel_rfl) (by kernel_rfl) hh
theorem raft_Step_of {x0 x1 : AV} (hh : (fun n => (
 newK x0 H fun a1 H1 E1 =>
 newK x1 H1 fun a2 H2 E2 =>
 newK (.agg [z0, z0, z0, z0, z0, z0, z0, .nils, .nils, z0, .nils, z0, z0, z0, z0, z0, z0, z0, z0, z0, z0, z0, z0, z0, z0, z0, z0, z0, z0]) H2 fun a3 H3 E3 =>
 (loadA true 29 a1 H3).bind fun a4 =>
 callK (EV C) false n_raft_Check [a4] H3 fun a5 H5 E5 =>
 (binA .neq (Go.TypeDesc.interface #[("Error", 121)]) cT true a5 .nili).bind fun a6 =>
 condK a6
 ((fillB (AV.cells (.agg [z0, z0, z0, z0, z0, z0, z0, .nils, .nils, z0, .nils, z0, z0, z0, z0, z0, z0, z0, z0, z0, z0, z0, z0, z0, z0, z0, z0, z0, z0])) []).bind fun c7 =>
 stoK 29 a3 (.agg c7) H5 fun H8 E8 =>
 (loadA true 29 a3 H8).bind fun a9 =>
 endB false false n (.tup [a9, .nils, z0, a5]) H8 (E8 ++ (E5 ++ (E3 ++ (E2 ++ (E1 ++ []))))))
 ((loadA true 29 a1 H5).bind fun a10 =>
 (fillB (AV.cells (.agg [z0, z0, z0, z0, z0, z0, z0, .nils, .nils, z0, .nils, z0, z0, z0, z0, z0, z0, z0, z0, z0, z0, z0, z0, z0, z0, z0, z0, z0, z0, .nils, z0])) [(0, 29, a10)]).bind fun c11 =>
 trmK (.agg c11) H5 [] fun a12 H12 E12 =>
 newK a12 H12 fun a13 H13 E13 =>
 (offA a2 0).bind fun a14 =>
 (loadA false 1 a14 H13).bind fun a15 =>
 (binA .eql tI cT true a15 z0).bind fun a16 =>
 condK a16
 ((offA a2 1).bind fun a17 =>
 (loadA false 1 a17 H13).bind fun a18 =>
 callK (EV C) false n_raft_stepper_tick [a13, a18] H13 fun a19 H19 E19 =>
 (nilA a13).bind fun a20 =>
 (offA a20 0).bind fun a21 =>
 (loadA true 29 a21 H19).bind fun a22 =>
 (nilA a13).bind fun a23 =>
 (offA a23 29).bind fun a24 =>
 (loadA false 1 a24 H19).bind fun a25 =>
 (nilA a13).bind fun a26 =>
 (offA a26 30).bind fun a27 =>
 (loadA false 1 a27 H19).bind fun a28 =>
 stoK 29 a3 a22 H19 fun H29 E29 =>
 drawK (((loadA false 1 a24 H29).bind fun a30 =>
 some a30) = some a25)
 (drawK (((loadA false 1 a27 H29).bind fun a31 =>
 some a31) = some a28)
 ((loadA true 29 a3 H29).bind fun a32 =>
 endB false false n (.tup [a32, a25, a28, .nili]) H29 (E29 ++ (E19 ++ (E13 ++ (E12 ++ (E5 ++ (E3 ++ (E2 ++ (E1 ++ [])))))))))))
 ((binA .eql tI cT true a15 (.int .i64 1)).bind fun a33 =>
 condK a33
 ((offA a2 3).bind fun a34 =>
 (loadA true 17 a34 H13).bind fun a35 =>
 callK (EV C) false n_raft_stepper_msg [a13, a35] H13 fun a36 H36 E36 =>
 (nilA a13).bind fun a37 =>
 (offA a37 0).bind fun a38 =>
 (loadA true 29 a38 H36).bind fun a39 =>
 (nilA a13).bind fun a40 =>
 (offA a40 29).bind fun a41 =>
 (loadA false 1 a41 H36).bind fun a42 =>
 (nilA a13).bind fun a43 =>
 (offA a43 30).bind fun a44 =>
 (loadA false 1 a44 H36).bind fun a45 =>
 stoK 29 a3 a39 H36 fun H46 E46 =>
 drawK (((loadA false 1 a41 H46).bind fun a47 =>
 some a47) = some a42)
 (drawK (((loadA false 1 a44 H46).bind fun a48 =>
 some a48) = some a45)
 ((loadA true 29 a3 H46).bind fun a49 =>
 endB false false n (.tup [a49, a42, a45, .nili]) H46 (E46 ++ (E36 ++ (E13 ++ (E12 ++ (E5 ++ (E3 ++ (E2 ++ (E1 ++ [])))))))))))
 ((binA .eql tI cT true a15 (.int .i64 2)).bind fun a50 =>
 condK a50
 ((offA a1 3).bind fun a51 =>
 (loadA false 1 a51 H13).bind fun a52 =>
 (binA .eql tI cT true a52 (.int .i64 2)).bind fun a53 =>
 splitK a53
 ((offA a2 20).bind fun a54 =>
 (loadA false 1 a54 H13).bind fun a55 =>
 (lenV a55 H13).bind fun a56 =>
 (binA .leq tI cT true a56 (.int .i64 4096)).bind fun a57 =>
 splitK a57
 (callK (EV C) false n_raft_stepper_last [a13] H13 fun a58 H58 E58 =>
 (binA .lss tI cT true a58 (.int .i64 1152921504606846976)).bind fun a59 =>
 condK a59
 ((offA a2 20).bind fun a60 =>
 (loadA false 1 a60 H58).bind fun a61 =>
 callK (EV C) false n_raft_stepper_propose [a13, (.int .i64 1), a61] H58 fun a62 H62 E62 =>
 (nilA a13).bind fun a63 =>
 (offA a63 0).bind fun a64 =>
 (loadA true 29 a64 H62).bind fun a65 =>
 (nilA a13).bind fun a66 =>
 (offA a66 29).bind fun a67 =>
 (loadA false 1 a67 H62).bind fun a68 =>
 (nilA a13).bind fun a69 =>
 (offA a69 30).bind fun a70 =>
 (loadA false 1 a70 H62).bind fun a71 =>
 stoK 29 a3 a65 H62 fun H72 E72 =>
 drawK (((loadA false 1 a67 H72).bind fun a73 =>
 some a73) = some a68)
 (drawK (((loadA false 1 a70 H72).bind fun a74 =>
 some a74) = some a71)
 ((loadA true 29 a3 H72).bind fun a75 =>
 endB false false n (.tup [a75, a68, a71, .nili]) H72 (E72 ++ (E62 ++ (E58 ++ (E13 ++ (E12 ++ (E5 ++ (E3 ++ (E2 ++ (E1 ++ []))))))))))))
 ((nilA a13).bind fun a76 =>
 (offA a76 0).bind fun a77 =>
 (loadA true 29 a77 H58).bind fun a78 =>
 (nilA a13).bind fun a79 =>
 (offA a79 29).bind fun a80 =>
 (loadA false 1 a80 H58).bind fun a81 =>
 (nilA a13).bind fun a82 =>
 (offA a82 30).bind fun a83 =>
 (loadA false 1 a83 H58).bind fun a84 =>
 stoK 29 a3 a78 H58 fun H85 E85 =>
 drawK (((loadA false 1 a80 H85).bind fun a86 =>
 some a86) = some a81)
 (drawK (((loadA false 1 a83 H85).bind fun a87 =>
 some a87) = some a84)
 ((loadA true 29 a3 H85).bind fun a88 =>
 endB false false n (.tup [a88, a81, a84, .nili]) H85 (E85 ++ (E58 ++ (E13 ++ (E12 ++ (E5 ++ (E3 ++ (E2 ++ (E1 ++ []))))))))))))
 ((nilA a13).bind fun a89 =>
 (offA a89 0).bind fun a90 =>
 (loadA true 29 a90 H13).bind fun a91 =>
 (nilA a13).bind fun a92 =>
 (offA a92 29).bind fun a93 =>
 (loadA false 1 a93 H13).bind fun a94 =>
 (nilA a13).bind fun a95 =>
 (offA a95 30).bind fun a96 =>
 (loadA false 1 a96 H13).bind fun a97 =>
 stoK 29 a3 a91 H13 fun H98 E98 =>
 drawK (((loadA false 1 a93 H98).bind fun a99 =>
 some a99) = some a94)
 (drawK (((loadA false 1 a96 H98).bind fun a100 =>
 some a100) = some a97)
 ((loadA true 29 a3 H98).bind fun a101 =>
 endB false false n (.tup [a101, a94, a97, .nili]) H98 (E98 ++ (E13 ++ (E12 ++ (E5 ++ (E3 ++ (E2 ++ (E1 ++ [])))))))))))
 ((nilA a13).bind fun a102 =>
 (offA a102 0).bind fun a103 =>
 (loadA true 29 a103 H13).bind fun a104 =>
 (nilA a13).bind fun a105 =>
 (offA a105 29).bind fun a106 =>
 (loadA false 1 a106 H13).bind fun a107 =>
 (nilA a13).bind fun a108 =>
 (offA a108 30).bind fun a109 =>
 (loadA false 1 a109 H13).bind fun a110 =>
 stoK 29 a3 a104 H13 fun H111 E111 =>
 drawK (((loadA false 1 a106 H111).bind fun a112 =>
 some a112) = some a107)
 (drawK (((loadA false 1 a109 H111).bind fun a113 =>
 some a113) = some a110)
 ((loadA true 29 a3 H111).bind fun a114 =>
 endB false false n (.tup [a114, a107, a110, .nili]) H111 (E111 ++ (E13 ++ (E12 ++ (E5 ++ (E3 ++ (E2 ++ (E1 ++ [])))))))))))
 ((binA .eql tI cT true a15 (.int .i64 3)).bind fun a115 =>
 condK a115
 ((offA a2 21).bind fun a116 =>
 (loadA false 1 a116 H13).bind fun a117 =>
 callK (EV C) false n_raft_stepper_change [a13, a117] H13 fun a118 H118 E118 =>
 (nilA a13).bind fun a119 =>
 (offA a119 0).bind fun a120 =>
 (loadA true 29 a120 H118).bind fun a121 =>
 (nilA a13).bind fun a122 =>
 (offA a122 29).bind fun a123 =>
 (loadA false 1 a123 H118).bind fun a124 =>
 (nilA a13).bind fun a125 =>
 (offA a125 30).bind fun a126 =>
 (loadA false 1 a126 H118).bind fun a127 =>
 stoK 29 a3 a121 H118 fun H128 E128 =>
 drawK (((loadA false 1 a123 H128).bind fun a129 =>
 some a129) = some a124)
 (drawK (((loadA false 1 a126 H128).bind fun a130 =>
 some a130) = some a127)
 ((loadA true 29 a3 H128).bind fun a131 =>
 endB false false n (.tup [a131, a124, a127, .nili]) H128 (E128 ++ (E118 ++ (E13 ++ (E12 ++ (E5 ++ (E3 ++ (E2 ++ (E1 ++ [])))))))))))
 ((binA .eql tI cT true a15 (.int .i64 4)).bind fun a132 =>
 condK a132
 ((offA a2 2).bind fun a133 =>
 (loadA false 1 a133 H13).bind fun a134 =>
 (offA a1 5).bind fun a135 =>
 (offA a135 0).bind fun a136 =>
 (offA a136 0).bind fun a137 =>
 (loadA false 1 a137 H13).bind fun a138 =>
 (binA .gtr tI cT false a134 a138).bind fun a139 =>
 splitK a139
 ((offA a2 2).bind fun a140 =>
 (loadA false 1 a140 H13).bind fun a141 =>
 (offA a1 9).bind fun a142 =>
 (loadA false 1 a142 H13).bind fun a143 =>
 (binA .leq tI cT false a141 a143).bind fun a144 =>
 condK a144
 ((offA a1 5).bind fun a145 =>
 (loadA true 4 a145 H13).bind fun a146 =>
 (offA a2 2).bind fun a147 =>
 (loadA false 1 a147 H13).bind fun a148 =>
 callK (EV C) false n_log_Compact [a146, a148] H13 fun a149 H149 E149 =>
 (extA a149 0).bind fun a150 =>
 (extA a149 1).bind fun a151 =>
 newK (.agg [z0, z0, .nils, .nils]) H149 fun a152 H152 E152 =>
 stoK 4 a152 a150 H152 fun H153 E153 =>
 (binA .eql (Go.TypeDesc.interface #[("Error", 121)]) cT true a151 .nili).bind fun a154 =>
 condK a154
 ((loadA true 4 a152 H153).bind fun a155 =>
 (offA a2 2).bind fun a156 =>
 (loadA false 1 a156 H153).bind fun a157 =>
 (nilA a13).bind fun a158 =>
 (offA a158 0).bind fun a159 =>
 (offA a159 5).bind fun a160 =>
 stoK 4 a160 a155 H153 fun H161 E161 =>
 drawK (((loadA false 1 a156 H161).bind fun a162 =>
 some a162) = some a157)
 ((nilA a13).bind fun a163 =>
 (offA a163 30).bind fun a164 =>
 stoK 1 a164 a157 H161 fun H165 E165 =>
 (nilA a13).bind fun a166 =>
 (offA a166 0).bind fun a167 =>
 (loadA true 29 a167 H165).bind fun a168 =>
 (nilA a13).bind fun a169 =>
 (offA a169 29).bind fun a170 =>
 (loadA false 1 a170 H165).bind fun a171 =>
 (nilA a13).bind fun a172 =>
 (offA a172 30).bind fun a173 =>
 (loadA false 1 a173 H165).bind fun a174 =>
 stoK 29 a3 a168 H165 fun H175 E175 =>
 drawK (((loadA false 1 a170 H175).bind fun a176 =>
 some a176) = some a171)
 (drawK (((loadA false 1 a173 H175).bind fun a177 =>
 some a177) = some a174)
 ((loadA true 29 a3 H175).bind fun a178 =>
 endB false false n (.tup [a178, a171, a174, .nili]) H175 (E175 ++ (E165 ++ (E161 ++ (E153 ++ (E152 ++ (E149 ++ (E13 ++ (E12 ++ (E5 ++ (E3 ++ (E2 ++ (E1 ++ []))))))))))))))))
 ((nilA a13).bind fun a179 =>
 (offA a179 0).bind fun a180 =>
 (loadA true 29 a180 H153).bind fun a181 =>
 (nilA a13).bind fun a182 =>
 (offA a182 29).bind fun a183 =>
 (loadA false 1 a183 H153).bind fun a184 =>
 (nilA a13).bind fun a185 =>
 (offA a185 30).bind fun a186 =>
 (loadA false 1 a186 H153).bind fun a187 =>
 stoK 29 a3 a181 H153 fun H188 E188 =>
 drawK (((loadA false 1 a183 H188).bind fun a189 =>
 some a189) = some a184)
 (drawK (((loadA false 1 a186 H188).bind fun a190 =>
 some a190) = some a187)
 ((loadA true 29 a3 H188).bind fun a191 =>
 endB false false n (.tup [a191, a184, a187, .nili]) H188 (E188 ++ (E153 ++ (E152 ++ (E149 ++ (E13 ++ (E12 ++ (E5 ++ (E3 ++ (E2 ++ (E1 ++ []))))))))))))))
 ((nilA a13).bind fun a192 =>
 (offA a192 0).bind fun a193 =>
 (loadA true 29 a193 H13).bind fun a194 =>
 (nilA a13).bind fun a195 =>
 (offA a195 29).bind fun a196 =>
 (loadA false 1 a196 H13).bind fun a197 =>
 (nilA a13).bind fun a198 =>
 (offA a198 30).bind fun a199 =>
 (loadA false 1 a199 H13).bind fun a200 =>
 stoK 29 a3 a194 H13 fun H201 E201 =>
 drawK (((loadA false 1 a196 H201).bind fun a202 =>
 some a202) = some a197)
 (drawK (((loadA false 1 a199 H201).bind fun a203 =>
 some a203) = some a200)
 ((loadA true 29 a3 H201).bind fun a204 =>
 endB false false n (.tup [a204, a197, a200, .nili]) H201 (E201 ++ (E13 ++ (E12 ++ (E5 ++ (E3 ++ (E2 ++ (E1 ++ [])))))))))))
 ((nilA a13).bind fun a205 =>
 (offA a205 0).bind fun a206 =>
 (loadA true 29 a206 H13).bind fun a207 =>
 (nilA a13).bind fun a208 =>
 (offA a208 29).bind fun a209 =>
 (loadA false 1 a209 H13).bind fun a210 =>
 (nilA a13).bind fun a211 =>
 (offA a211 30).bind fun a212 =>
 (loadA false 1 a212 H13).bind fun a213 =>
 stoK 29 a3 a207 H13 fun H214 E214 =>
 drawK (((loadA false 1 a209 H214).bind fun a215 =>
 some a215) = some a210)
 (drawK (((loadA false 1 a212 H214).bind fun a216 =>
 some a216) = some a213)
 ((loadA true 29 a3 H214).bind fun a217 =>
 endB false false n (.tup [a217, a210, a213, .nili]) H214 (E214 ++ (E13 ++ (E12 ++ (E5 ++ (E3 ++ (E2 ++ (E1 ++ [])))))))))))
 ((nilA a13).bind fun a218 =>
 (offA a218 0).bind fun a219 =>
 (loadA true 29 a219 H13).bind fun a220 =>
 (nilA a13).bind fun a221 =>
 (offA a221 29).bind fun a222 =>
 (loadA false 1 a222 H13).bind fun a223 =>
 (nilA a13).bind fun a224 =>
 (offA a224 30).bind fun a225 =>
 (loadA false 1 a225 H13).bind fun a226 =>
 stoK 29 a3 a220 H13 fun H227 E227 =>
 drawK (((loadA false 1 a222 H227).bind fun a228 =>
 some a228) = some a223)
 (drawK (((loadA false 1 a225 H227).bind fun a229 =>
 some a229) = some a226)
 ((loadA true 29 a3 H227).bind fun a230 =>
 endB false false n (.tup [a230, a223, a226, .nili]) H227 (E227 ++ (E13 ++ (E12 ++ (E5 ++ (E3 ++ (E2 ++ (E1 ++ []))))))))))))))))) (List.length H) = some r) : EV C n_raft_Step [x0, x1] H = some r :=
 EV_of_fnK' (fn := Tryz.f7) (by kernel_rfl) (by kernel_rfl) (by kernel_rfl) hh
noncomputable def raft_Check_J6 (n : Nat) (t1 t5 t74 : AV) (H : List AObj) (E : List Nat) : Option R3 :=
 lK 8 Tryz.f8 [1, 1, 1, 1, 0, 1, 0] n
 ⟨pat 119 [(1, t1), (5, t5), (74, t74)], H, E⟩
noncomputable def raft_Check_J11 (n : Nat) (t1 t5 t94 t95 t96 : AV) (H : List AObj) (E : List Nat) : Option R3 :=
 lK 8 Tryz.f8 [1, 1, 1, 1, 1, 0, 1, 0] n
 ⟨pat 119 [(1, t1), (5, t5), (94, t94), (95, t95), (96, t96)], H, E⟩
theorem raft_Check_J6_of {t1 t5 t74 : AV} (hh : (
 (binA .lss tI cT true t74 (.int .i64 8)).bind fun a1 =>
 condK a1
 (splitK t5
 ((offA t1 11).bind fun a2 =>
 (arA 8 1 a2 t74).bind fun a3 =>
 (loadA false 1 a3 H).bind fun a4 =>
 callK (EV C) false n_raft_in [a4, z0, (.int .i64 1152921504606846976)] H fun a5 H5 E5 =>
 splitK a5
 ((offA t1 19).bind fun a6 =>
 (arA 8 1 a6 t74).bind fun a7 =>
 (loadA false 1 a7 H5).bind fun a8 =>
 callK (EV C) false n_raft_in [a8, z0, (.int .i64 1152921504606846976)] H5 fun a9 H9 E9 =>
 (binA .add tI cT true t74 (.int .i64 1)).bind fun a10 =>
 raft_Check_J6 n t1 a9 a10 H9 ((E9 ++ (E5 ++ [])) ++ E))
 ((binA .add tI cT true t74 (.int .i64 1)).bind fun a11 =>
 raft_Check_J6 n t1 (.bool false) a11 H5 ((E5 ++ []) ++ E)))
 ((binA .add tI cT true t74 (.int .i64 1)).bind fun a12 =>
 raft_Check_J6 n t1 (.bool false) a12 H E))
 ((offA t1 10).bind fun a13 =>
 (loadA false 1 a13 H).bind fun a14 =>
 (lenV a14 H).bind fun a15 =>
 raft_Check_J11 n t1 t5 a14 a15 z0 H E)) = some r) : raft_Check_J6 n t1 t5 t74 H E = some r :=
 loop_step' (by kernel_rfl) hh
theorem raft_Check_J11_of {t1 t5 t94 t95 t96 : AV} (hh : (
 (binA .lss tI cT false t96 t95).bind fun a1 =>
 condK a1
 ((ixA 1 t94 t96 H).bind fun a2 =>
 (loadA false 1 a2 H).bind fun a3 =>
 splitK t5
 (callK (EV C) false n_raft_in [a3, (.int .i64 1), (.int .i64 7)] H fun a4 H4 E4 =>
 splitK a4
 ((offA t1 10).bind fun a5 =>
 (loadA false 1 a5 H4).bind fun a6 =>
 (cutA 1 a6 none (some t96) none H4).bind fun a7 =>
 callK (EV C) false n_Contains_int [a7, a3] H4 fun a8 H8 E8 =>
 (unA .not a8).bind fun a9 =>
 (binA .add tI cT true t96 (.int .i64 1)).bind fun a10 =>
 raft_Check_J11 n t1 a9 t94 t95 a10 H8 ((E8 ++ (E4 ++ [])) ++ E))
 ((binA .add tI cT true t96 (.int .i64 1)).bind fun a11 =>
 raft_Check_J11 n t1 (.bool false) t94 t95 a11 H4 ((E4 ++ []) ++ E)))
 ((binA .add tI cT true t96 (.int .i64 1)).bind fun a12 =>
 raft_Check_J11 n t1 (.bool false) t94 t95 a12 H E))
 ((unA .not t5).bind fun a13 =>
 condK a13
 (endB false false n (.ifc t_api_Code (.int .i64 3)) H E)
 (endB false false n .nili H E))) = some r) : raft_Check_J11 n t1 t5 t94 t95 t96 H E = some r :=
 loop_step' (by kernel_rfl) hh
theorem raft_Check_of {x0 : AV} (hh : (fun n => (
 newK x0 H fun a1 H1 E1 =>
 (offA a1 5).bind fun a2 =>
 (loadA true 4 a2 H1).bind fun a3 =>
 callK (EV C) false n_log_Check [a3] H1 fun a4 H4 E4 =>
 (binA .neq (Go.TypeDesc.interface #[("Error", 121)]) cT true a4 .nili).bind fun a5 =>
 condK a5
 (endB false false n (.ifc t_api_Code (.int .i64 3)) H4 (E4 ++ (E1 ++ [])))
 ((offA a1 5).bind fun a6 =>
 (loadA true 4 a6 H4).bind fun a7 =>
 callK (EV C) false n_log_Last [a7] H4 fun a8 H8 E8 =>
 (extA a8 0).bind fun a9 =>
 (extA a8 1).bind fun a10 =>
 (offA a1 0).bind fun a11 =>
 (loadA false 1 a11 H8).bind fun a12 =>
 callK (EV C) false n_raft_in [a12, (.int .i64 1), (.int .i64 7)] H8 fun a13 H13 E13 =>
 splitK a13
 ((offA a1 1).bind fun a14 =>
 (loadA false 1 a14 H13).bind fun a15 =>
 callK (EV C) false n_raft_in [a15, a10, (.int .i64 1152921504606846976)] H13 fun a16 H16 E16 =>
 splitK a16
 ((offA a1 2).bind fun a17 =>
 (loadA false 1 a17 H16).bind fun a18 =>
 callK (EV C) false n_raft_in [a18, z0, (.int .i64 7)] H16 fun a19 H19 E19 =>
 splitK a19
 ((offA a1 4).bind fun a20 =>
 (loadA false 1 a20 H19).bind fun a21 =>
 callK (EV C) false n_raft_in [a21, z0, (.int .i64 7)] H19 fun a22 H22 E22 =>
 splitK a22
 ((offA a1 3).bind fun a23 =>
 (loadA false 1 a23 H22).bind fun a24 =>
 callK (EV C) false n_raft_in [a24, z0, (.int .i64 2)] H22 fun a25 H25 E25 =>
 splitK a25
 ((offA a1 1).bind fun a26 =>
 (loadA false 1 a26 H25).bind fun a27 =>
 (binA .gtr tI cT true a27 z0).bind fun a28 =>
 splitK a28
 ((offA a1 9).bind fun a29 =>
 (loadA false 1 a29 H25).bind fun a30 =>
 (offA a1 5).bind fun a31 =>
 (offA a31 0).bind fun a32 =>
 (offA a32 0).bind fun a33 =>
 (loadA false 1 a33 H25).bind fun a34 =>
 callK (EV C) false n_raft_in [a30, a34, a9] H25 fun a35 H35 E35 =>
 splitK a35
 ((offA a1 27).bind fun a36 =>
 (loadA false 1 a36 H35).bind fun a37 =>
 callK (EV C) false n_raft_in [a37, z0, (.int .i64 1152921504606846976)] H35 fun a38 H38 E38 =>
 splitK a38
 ((offA a1 28).bind fun a39 =>
 (loadA false 1 a39 H38).bind fun a40 =>
 callK (EV C) false n_raft_in [a40, z0, (.int .i64 1152921504606846976)] H38 fun a41 H41 E41 =>
 raft_Check_J6 n a1 a41 z0 H41 (E41 ++ (E38 ++ (E35 ++ (E25 ++ (E22 ++ (E19 ++ (E16 ++ (E13 ++ (E8 ++ (E4 ++ (E1 ++ []))))))))))))
 (raft_Check_J6 n a1 (.bool false) z0 H38 (E38 ++ (E35 ++ (E25 ++ (E22 ++ (E19 ++ (E16 ++ (E13 ++ (E8 ++ (E4 ++ (E1 ++ []))))))))))))
 (raft_Check_J6 n a1 (.bool false) z0 H35 (E35 ++ (E25 ++ (E22 ++ (E19 ++ (E16 ++ (E13 ++ (E8 ++ (E4 ++ (E1 ++ [])))))))))))
 ((offA a1 3).bind fun a42 =>
 (loadA false 1 a42 H25).bind fun a43 =>
 (binA .eql tI cT true a43 z0).bind fun a44 =>
 splitK a44
 ((offA a1 9).bind fun a45 =>
 (loadA false 1 a45 H25).bind fun a46 =>
 (offA a1 5).bind fun a47 =>
 (offA a47 0).bind fun a48 =>
 (offA a48 0).bind fun a49 =>
 (loadA false 1 a49 H25).bind fun a50 =>
 callK (EV C) false n_raft_in [a46, a50, a9] H25 fun a51 H51 E51 =>
 splitK a51
 ((offA a1 27).bind fun a52 =>
 (loadA false 1 a52 H51).bind fun a53 =>
 callK (EV C) false n_raft_in [a53, z0, (.int .i64 1152921504606846976)] H51 fun a54 H54 E54 =>
 splitK a54
 ((offA a1 28).bind fun a55 =>
 (loadA false 1 a55 H54).bind fun a56 =>
 callK (EV C) false n_raft_in [a56, z0, (.int .i64 1152921504606846976)] H54 fun a57 H57 E57 =>
 raft_Check_J6 n a1 a57 z0 H57 (E57 ++ (E54 ++ (E51 ++ (E25 ++ (E22 ++ (E19 ++ (E16 ++ (E13 ++ (E8 ++ (E4 ++ (E1 ++ []))))))))))))
 (raft_Check_J6 n a1 (.bool false) z0 H54 (E54 ++ (E51 ++ (E25 ++ (E22 ++ (E19 ++ (E16 ++ (E13 ++ (E8 ++ (E4 ++ (E1 ++ []))))))))))))
 (raft_Check_J6 n a1 (.bool false) z0 H51 (E51 ++ (E25 ++ (E22 ++ (E19 ++ (E16 ++ (E13 ++ (E8 ++ (E4 ++ (E1 ++ [])))))))))))
 (raft_Check_J6 n a1 (.bool false) z0 H25 (E25 ++ (E22 ++ (E19 ++ (E16 ++ (E13 ++ (E8 ++ (E4 ++ (E1 ++ [])))))))))))
 (raft_Check_J6 n a1 (.bool false) z0 H25 (E25 ++ (E22 ++ (E19 ++ (E16 ++ (E13 ++ (E8 ++ (E4 ++ (E1 ++ []))))))))))
 (raft_Check_J6 n a1 (.bool false) z0 H22 (E22 ++ (E19 ++ (E16 ++ (E13 ++ (E8 ++ (E4 ++ (E1 ++ [])))))))))
 (raft_Check_J6 n a1 (.bool false) z0 H19 (E19 ++ (E16 ++ (E13 ++ (E8 ++ (E4 ++ (E1 ++ []))))))))
 (raft_Check_J6 n a1 (.bool false) z0 H16 (E16 ++ (E13 ++ (E8 ++ (E4 ++ (E1 ++ [])))))))
 (raft_Check_J6 n a1 (.bool false) z0 H13 (E13 ++ (E8 ++ (E4 ++ (E1 ++ [])))))))) (List.length H) = some r) : EV C n_raft_Check [x0] H = some r :=
 EV_of_fnK' (fn := Tryz.f8) (by kernel_rfl) (by kernel_rfl) (by kernel_rfl) hh
theorem ref19_Same_of {x0 x1 : AV} (hh : (fun n => (
 newK x0 H fun a1 H1 E1 =>
 newK x1 H1 fun a2 H2 E2 =>
 (offA a1 0).bind fun a3 =>
 (loadA false 1 a3 H2).bind fun a4 =>
 (offA a2 0).bind fun a5 =>
 (loadA false 1 a5 H2).bind fun a6 =>
 (binA .eql tI cT false a4 a6).bind fun a7 =>
 splitK a7
 ((offA a1 1).bind fun a8 =>
 (loadA false 1 a8 H2).bind fun a9 =>
 (offA a2 1).bind fun a10 =>
 (loadA false 1 a10 H2).bind fun a11 =>
 (binA .eql tI cT false a9 a11).bind fun a12 =>
 splitK a12
 ((offA a1 2).bind fun a13 =>
 (loadA false 1 a13 H2).bind fun a14 =>
 (offA a2 2).bind fun a15 =>
 (loadA false 1 a15 H2).bind fun a16 =>
 (binA .eql tI cT false a14 a16).bind fun a17 =>
 splitK a17
 ((offA a1 3).bind fun a18 =>
 (loadA false 1 a18 H2).bind fun a19 =>
 (offA a2 3).bind fun a20 =>
 (loadA false 1 a20 H2).bind fun a21 =>
 (binA .eql tI cT false a19 a21).bind fun a22 =>
 splitK a22
 ((offA a1 4).bind fun a23 =>
 (loadA false 1 a23 H2).bind fun a24 =>
 (offA a2 4).bind fun a25 =>
 (loadA false 1 a25 H2).bind fun a26 =>
 (binA .eql tI cT false a24 a26).bind fun a27 =>
 splitK a27
 ((offA a1 5).bind fun a28 =>
 (loadA true 4 a28 H2).bind fun a29 =>
 (offA a2 5).bind fun a30 =>
 (loadA true 4 a30 H2).bind fun a31 =>
 callK (EV C) false n_ref18_Same [a29, a31] H2 fun a32 H32 E32 =>
 splitK a32
 ((offA a1 9).bind fun a33 =>
 (loadA false 1 a33 H32).bind fun a34 =>
 (offA a2 9).bind fun a35 =>
 (loadA false 1 a35 H32).bind fun a36 =>
 (binA .eql tI cT false a34 a36).bind fun a37 =>
 splitK a37
 ((offA a1 10).bind fun a38 =>
 (loadA false 1 a38 H32).bind fun a39 =>
 (offA a2 10).bind fun a40 =>
 (loadA false 1 a40 H32).bind fun a41 =>
 callK (EV C) false n_ref17_Same [a39, a41] H32 fun a42 H42 E42 =>
 splitK a42
 ((offA a1 11).bind fun a43 =>
 (loadA true 8 a43 H42).bind fun a44 =>
 (offA a2 11).bind fun a45 =>
 (loadA true 8 a45 H42).bind fun a46 =>
 (binA .eql (Go.TypeDesc.array 8 3) cT false a44 a46).bind fun a47 =>
 splitK a47
 ((offA a1 19).bind fun a48 =>
 (loadA true 8 a48 H42).bind fun a49 =>
 (offA a2 19).bind fun a50 =>
 (loadA true 8 a50 H42).bind fun a51 =>
 (binA .eql (Go.TypeDesc.array 8 3) cT false a49 a51).bind fun a52 =>
 splitK a52
 ((offA a1 27).bind fun a53 =>
 (loadA false 1 a53 H42).bind fun a54 =>
 (offA a2 27).bind fun a55 =>
 (loadA false 1 a55 H42).bind fun a56 =>
 (binA .eql tI cT false a54 a56).bind fun a57 =>
 splitK a57
 ((offA a1 28).bind fun a58 =>
 (loadA false 1 a58 H42).bind fun a59 =>
 (offA a2 28).bind fun a60 =>
 (loadA false 1 a60 H42).bind fun a61 =>
 (binA .eql tI cT false a59 a61).bind fun a62 =>
 endB false false n a62 H42 (E42 ++ (E32 ++ (E2 ++ (E1 ++ [])))))
 (endB false false n (.bool false) H42 (E42 ++ (E32 ++ (E2 ++ (E1 ++ []))))))
 (endB false false n (.bool false) H42 (E42 ++ (E32 ++ (E2 ++ (E1 ++ []))))))
 (endB false false n (.bool false) H42 (E42 ++ (E32 ++ (E2 ++ (E1 ++ []))))))
 (endB false false n (.bool false) H42 (E42 ++ (E32 ++ (E2 ++ (E1 ++ []))))))
 (endB false false n (.bool false) H32 (E32 ++ (E2 ++ (E1 ++ [])))))
 (endB false false n (.bool false) H32 (E32 ++ (E2 ++ (E1 ++ [])))))
 (endB false false n (.bool false) H2 (E2 ++ (E1 ++ []))))
 (endB false false n (.bool false) H2 (E2 ++ (E1 ++ []))))
 (endB false false n (.bool false) H2 (E2 ++ (E1 ++ []))))
 (endB false false n (.bool false) H2 (E2 ++ (E1 ++ []))))
 (endB false false n (.bool false) H2 (E2 ++ (E1 ++ []))))) (List.length H) = some r) : EV C n_ref19_Same [x0, x1] H = some r :=
 EV_of_fnK' (fn := Tryz.f10) (by kernel_rfl) (by kernel_rfl) (by kernel_rfl) hh
noncomputable def ref19_Step_J22 (n : Nat) (t3 t5 t7 t11 : AV) (H : List AObj) (E : List Nat) : Option R3 :=
 lK 11 Tryz.f11 [1, 1, 1, 0, 1, 0, 1, 1, 1, 1, 1, 1, 1, 0, 1, 1, 1, 1, 1, 0, 1, 0] n
 ⟨pat 171 [(3, t3), (5, t5), (7, t7), (11, t11)], H, E⟩
theorem ref19_Step_J22_of {t3 t5 t7 t11 : AV} (hh : (
 (binA .lss tI cT true t11 (.int .i64 8)).bind fun a1 =>
 condK a1
 ((offA t3 21).bind fun a2 =>
 (loadA false 1 a2 H).bind fun a3 =>
 callK (EV C) false n_ref17_Has [a3, t11] H fun a4 H4 E4 =>
 splitK a4
 (callK (EV C) false n_ref17_Has [t7, t11] H4 fun a5 H5 E5 =>
 (unA .not a5).bind fun a6 =>
 condK a6
 ((nilA t5).bind fun a7 =>
 (offA a7 0).bind fun a8 =>
 (offA a8 19).bind fun a9 =>
 (arA 8 1 a9 t11).bind fun a10 =>
 stoK 1 a10 z0 H5 fun H11 E11 =>
 callK (EV C) false n_ref19_Run_last [t5] H11 fun a12 H12 E12 =>
 (binA .add tI cT true a12 (.int .i64 1)).bind fun a13 =>
 (nilA t5).bind fun a14 =>
 (offA a14 0).bind fun a15 =>
 (offA a15 11).bind fun a16 =>
 (arA 8 1 a16 t11).bind fun a17 =>
 stoK 1 a17 a13 H12 fun H18 E18 =>
 (binA .add tI cT true t11 (.int .i64 1)).bind fun a19 =>
 ref19_Step_J22 n t3 t5 t7 a19 H18 ((E18 ++ (E12 ++ (E11 ++ (E5 ++ (E4 ++ []))))) ++ E))
 ((binA .add tI cT true t11 (.int .i64 1)).bind fun a20 =>
 ref19_Step_J22 n t3 t5 t7 a20 H5 ((E5 ++ (E4 ++ [])) ++ E)))
 ((binA .add tI cT true t11 (.int .i64 1)).bind fun a21 =>
 ref19_Step_J22 n t3 t5 t7 a21 H4 ((E4 ++ []) ++ E)))
 ((offA t3 21).bind fun a22 =>
 (loadA false 1 a22 H).bind fun a23 =>
 callK (EV C) false n_ref17_Bytes [a23] H fun a24 H24 E24 =>
 callK (EV C) false n_ref19_Run_add [t5, (.int .i64 2), a24] H24 fun a25 H25 E25 =>
 callK (EV C) false n_ref19_Run_last [t5] H25 fun a26 H26 E26 =>
 (nilA t5).bind fun a27 =>
 (offA a27 30).bind fun a28 =>
 stoK 1 a28 a26 H26 fun H29 E29 =>
 callK (EV C) false n_ref19_Run_counts [t5] H29 fun a30 H30 E30 =>
 callK (EV C) false n_ref19_Run_sendAll [t5] H30 fun a31 H31 E31 =>
 endB true true n t5 H31 (E31 ++ (E30 ++ (E29 ++ (E26 ++ (E25 ++ (E24 ++ E)))))))) = some r) : ref19_Step_J22 n t3 t5 t7 t11 H E = some r :=
 loop_step' (by kernel_rfl) hh
theorem ref19_Step_of {x0 x1 : AV} (hh : (fun n => (
 newK x0 H fun a1 H1 E1 =>
 newK x1 H1 fun a2 H2 E2 =>
 (loadA true 29 a1 H2).bind fun a3 =>
 (fillB (AV.cells (.agg [z0, z0, z0, z0, z0, z0, z0, .nils, .nils, z0, .nils, z0, z0, z0, z0, z0, z0, z0, z0, z0, z0, z0, z0, z0, z0, z0, z0, z0, z0, .nils, z0])) [(0, 29, a3)]).bind fun c4 =>
 trmK (.agg c4) H2 [] fun a5 H5 E5 =>
 newK a5 H5 fun a6 H6 E6 =>
 (offA a1 3).bind fun a7 =>
 (loadA false 1 a7 H6).bind fun a8 =>
 (binA .eql tI cT true a8 (.int .i64 2)).bind fun a9 =>
 splitK a9
 (callK (EV C) false n_ref19_Run_last [a6] H6 fun a10 H10 E10 =>
 (binA .lss tI cT true a10 (.int .i64 1152921504606846976)).bind fun a11 =>
 (offA a2 0).bind fun a12 =>
 (loadA false 1 a12 H10).bind fun a13 =>
 (binA .eql tI cT true a13 z0).bind fun a14 =>
 condK a14
 ((offA a2 1).bind fun a15 =>
 (loadA false 1 a15 H10).bind fun a16 =>
 callK (EV C) false n_ref19_Run_tick [a6, a16] H10 fun a17 H17 E17 =>
 endB true true n a6 H17 (E17 ++ (E10 ++ (E6 ++ (E5 ++ (E2 ++ (E1 ++ [])))))))
 ((binA .eql tI cT true a13 (.int .i64 1)).bind fun a18 =>
 condK a18
 ((offA a2 3).bind fun a19 =>
 (loadA true 17 a19 H10).bind fun a20 =>
 callK (EV C) false n_ref19_Run_hear [a6, a20] H10 fun a21 H21 E21 =>
 endB true true n a6 H21 (E21 ++ (E10 ++ (E6 ++ (E5 ++ (E2 ++ (E1 ++ [])))))))
 ((binA .eql tI cT true a13 (.int .i64 2)).bind fun a22 =>
 condK a22
 (splitK a11
 ((offA a2 20).bind fun a23 =>
 (loadA false 1 a23 H10).bind fun a24 =>
 (lenV a24 H10).bind fun a25 =>
 (binA .leq tI cT true a25 (.int .i64 4096)).bind fun a26 =>
 condK a26
 ((offA a2 20).bind fun a27 =>
 (loadA false 1 a27 H10).bind fun a28 =>
 callK (EV C) false n_ref19_Run_add [a6, (.int .i64 1), a28] H10 fun a29 H29 E29 =>
 callK (EV C) false n_ref19_Run_last [a6] H29 fun a30 H30 E30 =>
 (nilA a6).bind fun a31 =>
 (offA a31 30).bind fun a32 =>
 stoK 1 a32 a30 H30 fun H33 E33 =>
 callK (EV C) false n_ref19_Run_counts [a6] H33 fun a34 H34 E34 =>
 callK (EV C) false n_ref19_Run_sendAll [a6] H34 fun a35 H35 E35 =>
 endB true true n a6 H35 (E35 ++ (E34 ++ (E33 ++ (E30 ++ (E29 ++ (E10 ++ (E6 ++ (E5 ++ (E2 ++ (E1 ++ [])))))))))))
 (endB true true n a6 H10 (E10 ++ (E6 ++ (E5 ++ (E2 ++ (E1 ++ [])))))))
 (endB true true n a6 H10 (E10 ++ (E6 ++ (E5 ++ (E2 ++ (E1 ++ [])))))))
 ((binA .eql tI cT true a13 (.int .i64 3)).bind fun a36 =>
 condK a36
 (callK (EV C) false n_ref19_Run_members [a6] H10 fun a37 H37 E37 =>
 (offA a2 21).bind fun a38 =>
 (loadA false 1 a38 H37).bind fun a39 =>
 callK (EV C) false n_ref17_Step [a37, a39] H37 fun a40 H40 E40 =>
 (offA a1 0).bind fun a41 =>
 (loadA false 1 a41 H40).bind fun a42 =>
 callK (EV C) false n_ref17_Has [a37, a42] H40 fun a43 H43 E43 =>
 callK (EV C) false n_ref19_Run_open [a6] H43 fun a44 H44 E44 =>
 (unA .not a11).bind fun a45 =>
 splitK a45
 (endB true true n a6 H44 (E44 ++ (E43 ++ (E40 ++ (E37 ++ (E10 ++ (E6 ++ (E5 ++ (E2 ++ (E1 ++ []))))))))))
 ((unA .not a40).bind fun a46 =>
 splitK a46
 (endB true true n a6 H44 (E44 ++ (E43 ++ (E40 ++ (E37 ++ (E10 ++ (E6 ++ (E5 ++ (E2 ++ (E1 ++ []))))))))))
 ((unA .not a43).bind fun a47 =>
 splitK a47
 (endB true true n a6 H44 (E44 ++ (E43 ++ (E40 ++ (E37 ++ (E10 ++ (E6 ++ (E5 ++ (E2 ++ (E1 ++ []))))))))))
 (splitK a44
 (endB true true n a6 H44 (E44 ++ (E43 ++ (E40 ++ (E37 ++ (E10 ++ (E6 ++ (E5 ++ (E2 ++ (E1 ++ []))))))))))
 ((offA a1 5).bind fun a48 =>
 (loadA true 4 a48 H44).bind fun a49 =>
 (offA a1 9).bind fun a50 =>
 (loadA false 1 a50 H44).bind fun a51 =>
 (callD (EV C) n_ref18_Term [a49, a51] H44).bind fun a52 =>
 (offA a1 1).bind fun a53 =>
 (loadA false 1 a53 H44).bind fun a54 =>
 (binA .neq tI cT false a52 a54).bind fun a55 =>
 condK a55
 (endB true true n a6 H44 (E44 ++ (E43 ++ (E40 ++ (E37 ++ (E10 ++ (E6 ++ (E5 ++ (E2 ++ (E1 ++ []))))))))))
 (ref19_Step_J22 n a2 a6 a37 (.int .i64 1) H44 (E44 ++ (E43 ++ (E40 ++ (E37 ++ (E10 ++ (E6 ++ (E5 ++ (E2 ++ (E1 ++ [])))))))))))))))
 ((binA .eql tI cT true a13 (.int .i64 4)).bind fun a56 =>
 condK a56
 ((offA a2 2).bind fun a57 =>
 (loadA false 1 a57 H10).bind fun a58 =>
 (offA a1 5).bind fun a59 =>
 (offA a59 0).bind fun a60 =>
 (offA a60 0).bind fun a61 =>
 (loadA false 1 a61 H10).bind fun a62 =>
 (binA .gtr tI cT false a58 a62).bind fun a63 =>
 splitK a63
 ((offA a2 2).bind fun a64 =>
 (loadA false 1 a64 H10).bind fun a65 =>
 (offA a1 9).bind fun a66 =>
 (loadA false 1 a66 H10).bind fun a67 =>
 (binA .leq tI cT false a65 a67).bind fun a68 =>
 condK a68
 ((offA a1 5).bind fun a69 =>
 (loadA true 4 a69 H10).bind fun a70 =>
 (offA a2 2).bind fun a71 =>
 (loadA false 1 a71 H10).bind fun a72 =>
 callK (EV C) false n_ref18_Compact [a70, a72] H10 fun a73 H73 E73 =>
 (nilA a6).bind fun a74 =>
 (offA a74 0).bind fun a75 =>
 (offA a75 5).bind fun a76 =>
 stoK 4 a76 a73 H73 fun H77 E77 =>
 (offA a2 2).bind fun a78 =>
 (loadA false 1 a78 H77).bind fun a79 =>
 (nilA a6).bind fun a80 =>
 (offA a80 30).bind fun a81 =>
 stoK 1 a81 a79 H77 fun H82 E82 =>
 endB true true n a6 H82 (E82 ++ (E77 ++ (E73 ++ (E10 ++ (E6 ++ (E5 ++ (E2 ++ (E1 ++ [])))))))))
 (endB true true n a6 H10 (E10 ++ (E6 ++ (E5 ++ (E2 ++ (E1 ++ [])))))))
 (endB true true n a6 H10 (E10 ++ (E6 ++ (E5 ++ (E2 ++ (E1 ++ [])))))))
 (endB true true n a6 H10 (E10 ++ (E6 ++ (E5 ++ (E2 ++ (E1 ++ [])))))))))))
 ((offA a2 0).bind fun a83 =>
 (loadA false 1 a83 H6).bind fun a84 =>
 (binA .eql tI cT true a84 z0).bind fun a85 =>
 condK a85
 ((offA a2 1).bind fun a86 =>
 (loadA false 1 a86 H6).bind fun a87 =>
 callK (EV C) false n_ref19_Run_tick [a6, a87] H6 fun a88 H88 E88 =>
 endB true true n a6 H88 (E88 ++ (E6 ++ (E5 ++ (E2 ++ (E1 ++ []))))))
 ((binA .eql tI cT true a84 (.int .i64 1)).bind fun a89 =>
 condK a89
 ((offA a2 3).bind fun a90 =>
 (loadA true 17 a90 H6).bind fun a91 =>
 callK (EV C) false n_ref19_Run_hear [a6, a91] H6 fun a92 H92 E92 =>
 endB true true n a6 H92 (E92 ++ (E6 ++ (E5 ++ (E2 ++ (E1 ++ []))))))
 ((binA .eql tI cT true a84 (.int .i64 2)).bind fun a93 =>
 condK a93
 (endB true true n a6 H6 (E6 ++ (E5 ++ (E2 ++ (E1 ++ [])))))
 ((binA .eql tI cT true a84 (.int .i64 3)).bind fun a94 =>
 condK a94
 (callK (EV C) false n_ref19_Run_members [a6] H6 fun a95 H95 E95 =>
 (offA a2 21).bind fun a96 =>
 (loadA false 1 a96 H95).bind fun a97 =>
 callK (EV C) false n_ref17_Step [a95, a97] H95 fun a98 H98 E98 =>
 (offA a1 0).bind fun a99 =>
 (loadA false 1 a99 H98).bind fun a100 =>
 callK (EV C) false n_ref17_Has [a95, a100] H98 fun a101 H101 E101 =>
 callK (EV C) false n_ref19_Run_open [a6] H101 fun a102 H102 E102 =>
 (unA .not (.bool false)).bind fun a103 =>
 splitK a103
 (endB true true n a6 H102 (E102 ++ (E101 ++ (E98 ++ (E95 ++ (E6 ++ (E5 ++ (E2 ++ (E1 ++ [])))))))))
 ((unA .not a98).bind fun a104 =>
 splitK a104
 (endB true true n a6 H102 (E102 ++ (E101 ++ (E98 ++ (E95 ++ (E6 ++ (E5 ++ (E2 ++ (E1 ++ [])))))))))
 ((unA .not a101).bind fun a105 =>
 splitK a105
 (endB true true n a6 H102 (E102 ++ (E101 ++ (E98 ++ (E95 ++ (E6 ++ (E5 ++ (E2 ++ (E1 ++ [])))))))))
 (splitK a102
 (endB true true n a6 H102 (E102 ++ (E101 ++ (E98 ++ (E95 ++ (E6 ++ (E5 ++ (E2 ++ (E1 ++ [])))))))))
 ((offA a1 5).bind fun a106 =>
 (loadA true 4 a106 H102).bind fun a107 =>
 (offA a1 9).bind fun a108 =>
 (loadA false 1 a108 H102).bind fun a109 =>
 (callD (EV C) n_ref18_Term [a107, a109] H102).bind fun a110 =>
 (offA a1 1).bind fun a111 =>
 (loadA false 1 a111 H102).bind fun a112 =>
 (binA .neq tI cT false a110 a112).bind fun a113 =>
 condK a113
 (endB true true n a6 H102 (E102 ++ (E101 ++ (E98 ++ (E95 ++ (E6 ++ (E5 ++ (E2 ++ (E1 ++ [])))))))))
 (ref19_Step_J22 n a2 a6 a95 (.int .i64 1) H102 (E102 ++ (E101 ++ (E98 ++ (E95 ++ (E6 ++ (E5 ++ (E2 ++ (E1 ++ []))))))))))))))
 ((binA .eql tI cT true a84 (.int .i64 4)).bind fun a114 =>
 condK a114
 ((offA a2 2).bind fun a115 =>
 (loadA false 1 a115 H6).bind fun a116 =>
 (offA a1 5).bind fun a117 =>
 (offA a117 0).bind fun a118 =>
 (offA a118 0).bind fun a119 =>
 (loadA false 1 a119 H6).bind fun a120 =>
 (binA .gtr tI cT false a116 a120).bind fun a121 =>
 splitK a121
 ((offA a2 2).bind fun a122 =>
 (loadA false 1 a122 H6).bind fun a123 =>
 (offA a1 9).bind fun a124 =>
 (loadA false 1 a124 H6).bind fun a125 =>
 (binA .leq tI cT false a123 a125).bind fun a126 =>
 condK a126
 ((offA a1 5).bind fun a127 =>
 (loadA true 4 a127 H6).bind fun a128 =>
 (offA a2 2).bind fun a129 =>
 (loadA false 1 a129 H6).bind fun a130 =>
 callK (EV C) false n_ref18_Compact [a128, a130] H6 fun a131 H131 E131 =>
 (nilA a6).bind fun a132 =>
 (offA a132 0).bind fun a133 =>
 (offA a133 5).bind fun a134 =>
 stoK 4 a134 a131 H131 fun H135 E135 =>
 (offA a2 2).bind fun a136 =>
 (loadA false 1 a136 H135).bind fun a137 =>
 (nilA a6).bind fun a138 =>
 (offA a138 30).bind fun a139 =>
 stoK 1 a139 a137 H135 fun H140 E140 =>
 endB true true n a6 H140 (E140 ++ (E135 ++ (E131 ++ (E6 ++ (E5 ++ (E2 ++ (E1 ++ []))))))))
 (endB true true n a6 H6 (E6 ++ (E5 ++ (E2 ++ (E1 ++ []))))))
 (endB true true n a6 H6 (E6 ++ (E5 ++ (E2 ++ (E1 ++ []))))))
 (endB true true n a6 H6 (E6 ++ (E5 ++ (E2 ++ (E1 ++ [])))))))))))) (List.length H) = some r) : EV C n_ref19_Step [x0, x1] H = some r :=
 EV_of_fnK' (fn := Tryz.f11) (by kernel_rfl) (by kernel_rfl) (by kernel_rfl) hh
noncomputable def ref19_SameMsgs_J4 (n : Nat) (t0 t1 t5 : AV) (H : List AObj) (E : List Nat) : Option R3 :=
 lK 12 Tryz.f12 [1, 1, 0, 1, 0] n
 ⟨pat 29 [(0, t0), (1, t1), (5, t5)], H, E⟩
theorem ref19_SameMsgs_J4_of {t0 t1 t5 : AV} (hh : (
 (lenV t0 H).bind fun a1 =>
 (binA .lss tI cT false t5 a1).bind fun a2 =>
 condK a2
 ((ixA 17 t0 t5 H).bind fun a3 =>
 (loadA true 17 a3 H).bind fun a4 =>
 (ixA 17 t1 t5 H).bind fun a5 =>
 (loadA true 17 a5 H).bind fun a6 =>
 (callD (EV C) n_ref19_SameMsg [a4, a6] H).bind fun a7 =>
 (unA .not a7).bind fun a8 =>
 condK a8
 (endB false false n (.bool false) H E)
 ((binA .add tI cT true t5 (.int .i64 1)).bind fun a9 =>
 ref19_SameMsgs_J4 n t0 t1 a9 H E))
 (endB false false n (.bool true) H E)) = some r) : ref19_SameMsgs_J4 n t0 t1 t5 H E = some r :=
 loop_step' (by kernel_rfl) hh
theorem ref19_SameMsgs_of {x0 x1 : AV} (hh : (fun n => (
 (lenV x0 H).bind fun a1 =>
 (lenV x1 H).bind fun a2 =>
 (binA .neq tI cT false a1 a2).bind fun a3 =>
 condK a3
 (endB false false n (.bool false) H [])
 (ref19_SameMsgs_J4 n x0 x1 z0 H []))) (List.length H) = some r) : EV C n_ref19_SameMsgs [x0, x1] H = some r :=
 EV_of_fnK' (fn := Tryz.f12) (by kernel_rfl) (by kernel_rfl) (by kernel_rfl) hh
theorem raft_New_of {x0 x1 x2 x3 x4 : AV} (hh : (fun n => (
 newK x3 H fun a1 H1 E1 =>
 newK (.agg [z0, z0, z0, z0, z0, z0, z0, .nils, .nils, z0, .nils, z0, z0, z0, z0, z0, z0, z0, z0, z0, z0, z0, z0, z0, z0, z0, z0, z0, z0]) H1 fun a2 H2 E2 =>
 (loadA true 4 a1 H2).bind fun a3 =>
 (offA a1 0).bind fun a4 =>
 (offA a4 0).bind fun a5 =>
 (loadA false 1 a5 H2).bind fun a6 =>
 (callD (EV C) n_raft_timeout [x4] H2).bind fun a7 =>
 (fillB (AV.cells (.agg [z0, z0, z0, z0, z0, z0, z0, .nils, .nils, z0, .nils, z0, z0, z0, z0, z0, z0, z0, z0, z0, z0, z0, z0, z0, z0, z0, z0, z0, z0])) [(0, 1, x0), (1, 1, x1), (2, 1, x2), (5, 4, a3), (9, 1, a6), (28, 1, a7)]).bind fun c8 =>
 newK (.agg [z0, z0, z0, z0, z0, z0, z0, .nils, .nils, z0, .nils, z0, z0, z0, z0, z0, z0, z0, z0, z0, z0, z0, z0, z0, z0, z0, z0, z0, z0]) H2 fun a9 H9 E9 =>
 drawK (((loadA true 4 a1 H9).bind fun a10 =>
 some a10) = some a3)
 (drawK (((loadA false 1 a5 H9).bind fun a11 =>
 some a11) = some a6)
 (drawK (((callD (EV C) n_raft_timeout [x4] H9).bind fun a12 =>
 some a12) = some a7)
 (stoK 29 a9 (.agg c8) H9 fun H13 E13 =>
 (loadA true 29 a9 H13).bind fun a14 =>
 callK (EV C) false n_raft_Check [a14] H13 fun a15 H15 E15 =>
 (binA .neq (Go.TypeDesc.interface #[("Error", 121)]) cT true a15 .nili).bind fun a16 =>
 condK a16
 ((fillB (AV.cells (.agg [z0, z0, z0, z0, z0, z0, z0, .nils, .nils, z0, .nils, z0, z0, z0, z0, z0, z0, z0, z0, z0, z0, z0, z0, z0, z0, z0, z0, z0, z0])) []).bind fun c17 =>
 stoK 29 a2 (.agg c17) H15 fun H18 E18 =>
 (loadA true 29 a2 H18).bind fun a19 =>
 endB false false n (.tup [a19, a15]) H18 (E18 ++ (E15 ++ (E13 ++ (E9 ++ (E2 ++ (E1 ++ [])))))))
 ((loadA true 29 a9 H15).bind fun a20 =>
 stoK 29 a2 a20 H15 fun H21 E21 =>
 (loadA true 29 a2 H21).bind fun a22 =>
 endB false false n (.tup [a22, .nili]) H21 (E21 ++ (E15 ++ (E13 ++ (E9 ++ (E2 ++ (E1 ++ [])))))))))))) (List.length H) = some r) : EV C n_raft_New [x0, x1, x2, x3, x4] H = some r :=
 EV_of_fnK' (fn := Tryz.f13) (by kernel_rfl) (by kernel_rfl) (by kernel_rfl) hh
end Go.Pm
