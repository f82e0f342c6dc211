/- A part of the proof: what the functions of the program answer, as plain lists and numbers. -/
import Derived.Test.YtndkpoacbheemaaGreatP8
namespace Go.Pm
set_option linter.unusedVariables false
open Go.Proofs
variable {r : R3} {n : Nat} {H : List AObj} {E : List Nat}
set_option linter.unusedVariables false
set_option maxRecDepth 100000
noncomputable def ref18_Light_J4 (n : Nat) (t1 t3 : AV) (H : List AObj) (E : List Nat) : Option R3 :=
 lK 14 Tryz.f14 [1, 1, 0, 1, 0] n
 ⟨pat 30 [(1, t1), (3, t3)], H, E⟩
theorem ref18_Light_J4_of {t1 t3 : AV} (hh : (
 (offA t1 3).bind fun a1 =>
 (loadA false 1 a1 H).bind fun a2 =>
 (lenV a2 H).bind fun a3 =>
 (binA .lss tI cT false t3 a3).bind fun a4 =>
 condK a4
 ((offA t1 3).bind fun a5 =>
 (loadA false 1 a5 H).bind fun a6 =>
 (ixA 3 a6 t3 H).bind fun a7 =>
 (offA a7 2).bind fun a8 =>
 (loadA false 1 a8 H).bind fun a9 =>
 (lenV a9 H).bind fun a10 =>
 (binA .gtr tI cT true a10 (.int .i64 5000)).bind fun a11 =>
 condK a11
 (endB false false n (.bool false) H E)
 ((binA .add tI cT true t3 (.int .i64 1)).bind fun a12 =>
 ref18_Light_J4 n t1 a12 H E))
 (endB false false n (.bool true) H E)) = some r) : ref18_Light_J4 n t1 t3 H E = some r :=
 loop_step' (by kernel_rfl) hh
theorem ref18_Light_of {x0 : AV} (hh : (fun n => (
 newK x0 H fun a1 H1 E1 =>
 (offA a1 3).bind fun a2 =>
 (loadA false 1 a2 H1).bind fun a3 =>
 (lenV a3 H1).bind fun a4 =>
 (binA .gtr tI cT true a4 (.int .i64 200)).bind fun a5 =>
 splitK a5
 (endB false false n (.bool false) H1 (E1 ++ []))
 ((offA a1 0).bind fun a6 =>
 (offA a6 2).bind fun a7 =>
 (loadA false 1 a7 H1).bind fun a8 =>
 (lenV a8 H1).bind fun a9 =>
 (binA .gtr tI cT true a9 (.int .i64 100)).bind fun a10 =>
 condK a10
 (endB false false n (.bool false) H1 (E1 ++ []))
 (ref18_Light_J4 n a1 z0 H1 (E1 ++ []))))) (List.length H) = some r) : EV C n_ref18_Light [x0] H = some r :=
 EV_of_fnK' (fn := Tryz.f14) (by kernel_rfl) (by kernel_rfl) (by kernel_rfl) hh
theorem raft_stepper_tick_of {x0 x1 : AV} (hh : (fun n => (
 (nilA x0).bind fun a1 =>
 (offA a1 0).bind fun a2 =>
 (nilA a2).bind fun a3 =>
 (offA a3 27).bind fun a4 =>
 (loadA false 1 a4 H).bind fun a5 =>
 (binA .add tI cT true a5 (.int .i64 1)).bind fun a6 =>
 (minA [a6, (.int .i64 1152921504606846976)]).bind fun a7 =>
 (nilA a2).bind fun a8 =>
 (offA a8 27).bind fun a9 =>
 stoK 1 a9 a7 H fun H10 E10 =>
 (nilA a2).bind fun a11 =>
 (offA a11 3).bind fun a12 =>
 (loadA false 1 a12 H10).bind fun a13 =>
 (binA .eql tI cT true a13 (.int .i64 2)).bind fun a14 =>
 condK a14
 ((nilA a2).bind fun a15 =>
 (offA a15 27).bind fun a16 =>
 (loadA false 1 a16 H10).bind fun a17 =>
 (binA .geq tI cT true a17 (.int .i64 2)).bind fun a18 =>
 condK a18
 ((nilA a2).bind fun a19 =>
 (offA a19 27).bind fun a20 =>
 stoK 1 a20 z0 H10 fun H21 E21 =>
 callK (EV C) false n_raft_stepper_others [x0, (.clo n_raft_stepper_bring [x0] [])] H21 fun a22 H22 E22 =>
 endB false false n (.tup []) H22 (E22 ++ (E21 ++ (E10 ++ []))))
 (endB false false n (.tup []) H10 (E10 ++ [])))
 ((nilA a2).bind fun a23 =>
 (offA a23 27).bind fun a24 =>
 (loadA false 1 a24 H10).bind fun a25 =>
 (nilA a2).bind fun a26 =>
 (offA a26 28).bind fun a27 =>
 (loadA false 1 a27 H10).bind fun a28 =>
 (binA .geq tI cT false a25 a28).bind fun a29 =>
 splitK a29
 (callK (EV C) false n_raft_stepper_members [x0] H10 fun a30 H30 E30 =>
 (nilA a2).bind fun a31 =>
 (offA a31 0).bind fun a32 =>
 (loadA false 1 a32 H30).bind fun a33 =>
 drawK (((loadA false 1 a32 H10).bind fun a34 =>
 some a34) = some a33)
 ((callD (EV C) n_conf_Has [a30, a33] H30).bind fun a35 =>
 splitK a35
 ((nilA a2).bind fun a36 =>
 (offA a36 1).bind fun a37 =>
 (loadA false 1 a37 H30).bind fun a38 =>
 (binA .lss tI cT true a38 (.int .i64 1152921504606846976)).bind fun a39 =>
 condK a39
 (callK (EV C) false n_raft_stepper_stands [x0, x1] H30 fun a40 H40 E40 =>
 endB false false n (.tup []) H40 (E40 ++ (E30 ++ (E10 ++ []))))
 (endB false false n (.tup []) H30 (E30 ++ (E10 ++ []))))
 (endB false false n (.tup []) H30 (E30 ++ (E10 ++ [])))))
 (endB false false n (.tup []) H10 (E10 ++ []))))) (List.length H) = some r) : EV C n_raft_stepper_tick [x0, x1] H = some r :=
 EV_of_fnK' (fn := Tryz.f15) (by kernel_rfl) (by kernel_rfl) (by kernel_rfl) hh
noncomputable def raft_stepper_msg_S5 (n : Nat) (t0 t3 t4 : AV) (H : List AObj) (E : List Nat) : Option R3 :=
 runK Tryz.prog C.G (EV C) (C.hint 16) Tryz.f16 (cAt (bodyOf Tryz.f16) [1, 1, 1, 1]) ⟨pat 178 [(0, t0), (3, t3), (4, t4)], H, E⟩
 (kAt Tryz.prog C.G (EV C) (C.hint 16) Tryz.f16 (bodyOf Tryz.f16) [1, 1, 1, 1] [] (endK Tryz.prog (C.hint 16) Tryz.f16 n))
noncomputable def raft_stepper_msg_S19 (n : Nat) (t0 t4 : AV) (H : List AObj) (E : List Nat) : Option R3 :=
 runK Tryz.prog C.G (EV C) (C.hint 16) Tryz.f16 (cAt (bodyOf Tryz.f16) [1, 1, 1, 1, 1, 1, 0, 1, 1, 1, 0, 1, 0, 1]) ⟨pat 178 [(0, t0), (4, t4)], H, E⟩
 (kAt Tryz.prog C.G (EV C) (C.hint 16) Tryz.f16 (bodyOf Tryz.f16) [1, 1, 1, 1, 1, 1, 0, 1, 1, 1, 0, 1, 0, 1] [] (endK Tryz.prog (C.hint 16) Tryz.f16 n))
theorem raft_stepper_msg_S5_of {t0 t3 t4 : AV} (hh : (
 (offA t3 3).bind fun a1 =>
 (loadA false 1 a1 H).bind fun a2 =>
 (nilA t4).bind fun a3 =>
 (offA a3 1).bind fun a4 =>
 (loadA false 1 a4 H).bind fun a5 =>
 (binA .lss tI cT false a2 a5).bind fun a6 =>
 condK a6
 ((offA t3 0).bind fun a7 =>
 (loadA false 1 a7 H).bind fun a8 =>
 (binA .eql tI cT true a8 (.int .i64 1)).bind fun a9 =>
 condK a9
 ((offA t3 1).bind fun a10 =>
 (loadA false 1 a10 H).bind fun a11 =>
 (fillB (AV.cells (.agg [z0, z0, z0, z0, z0, z0, z0, (.bool false), .nils, .nils, z0, .nils, z0, .nils, .nils, .nils, .nils])) [(0, 1, (.int .i64 2))]).bind fun c12 =>
 callK (EV C) false n_raft_stepper_send [t0, a11, (.agg c12)] H fun a13 H13 E13 =>
 endB false false n (.tup []) H13 (E13 ++ E))
 ((binA .eql tI cT true a8 (.int .i64 3)).bind fun a14 =>
 condK a14
 ((offA t3 1).bind fun a15 =>
 (loadA false 1 a15 H).bind fun a16 =>
 callK (EV C) false n_raft_stepper_last [t0] H fun a17 H17 E17 =>
 drawK (((loadA false 1 a15 H17).bind fun a18 =>
 some a18) = some a16)
 ((fillB (AV.cells (.agg [z0, z0, z0, z0, z0, z0, z0, (.bool false), .nils, .nils, z0, .nils, z0, .nils, .nils, .nils, .nils])) [(0, 1, (.int .i64 4)), (4, 1, a17)]).bind fun c19 =>
 callK (EV C) false n_raft_stepper_send [t0, a16, (.agg c19)] H17 fun a20 H20 E20 =>
 endB false false n (.tup []) H20 (E20 ++ (E17 ++ E))))
 ((binA .eql tI cT true a8 (.int .i64 5)).bind fun a21 =>
 condK a21
 ((offA t3 1).bind fun a22 =>
 (loadA false 1 a22 H).bind fun a23 =>
 callK (EV C) false n_raft_stepper_last [t0] H fun a24 H24 E24 =>
 drawK (((loadA false 1 a22 H24).bind fun a25 =>
 some a25) = some a23)
 ((fillB (AV.cells (.agg [z0, z0, z0, z0, z0, z0, z0, (.bool false), .nils, .nils, z0, .nils, z0, .nils, .nils, .nils, .nils])) [(0, 1, (.int .i64 4)), (4, 1, a24)]).bind fun c26 =>
 callK (EV C) false n_raft_stepper_send [t0, a23, (.agg c26)] H24 fun a27 H27 E27 =>
 endB false false n (.tup []) H27 (E27 ++ (E24 ++ E))))
 (endB false false n (.tup []) H E))))
 ((offA t3 0).bind fun a28 =>
 (loadA false 1 a28 H).bind fun a29 =>
 (binA .eql tI cT true a29 (.int .i64 1)).bind fun a30 =>
 condK a30
 ((loadA true 17 t3 H).bind fun a31 =>
 callK (EV C) false n_raft_stepper_ask [t0, a31] H fun a32 H32 E32 =>
 endB false false n (.tup []) H32 (E32 ++ E))
 ((binA .eql tI cT true a29 (.int .i64 2)).bind fun a33 =>
 condK a33
 ((nilA t4).bind fun a34 =>
 (offA a34 3).bind fun a35 =>
 (loadA false 1 a35 H).bind fun a36 =>
 (binA .eql tI cT true a36 (.int .i64 1)).bind fun a37 =>
 splitK a37
 ((offA t3 7).bind fun a38 =>
 (loadA false 1 a38 H).bind fun a39 =>
 condK a39
 ((nilA t4).bind fun a40 =>
 (offA a40 10).bind fun a41 =>
 (loadA false 1 a41 H).bind fun a42 =>
 (offA t3 1).bind fun a43 =>
 (loadA false 1 a43 H).bind fun a44 =>
 (callD (EV C) n_Contains_int [a42, a44] H).bind fun a45 =>
 (unA .not a45).bind fun a46 =>
 condK a46
 ((nilA t4).bind fun a47 =>
 (offA a47 10).bind fun a48 =>
 (loadA false 1 a48 H).bind fun a49 =>
 callK (EV C) true n_Clone_int_r [a49] H fun a50 H50 E50 =>
 (offA t3 1).bind fun a51 =>
 (loadA false 1 a51 H50).bind fun a52 =>
 drawK (((loadA false 1 a51 H).bind fun a53 =>
 some a53) = some a52)
 ((litD 1 1 z0 [(0, a52)] H50).bind fun a54 =>
 drawK (((litD 1 1 z0 [(0, a52)] H).bind fun a55 =>
 some a55) = some a54)
 (appK 1 8 a50 a54 H50 fun a56 H56 E56 =>
 frzK a56 H56 fun a57 H57 =>
 (nilA t4).bind fun a58 =>
 (offA a58 10).bind fun a59 =>
 stoK 1 a59 a57 H57 fun H60 E60 =>
 raft_stepper_msg_S19 n t0 t4 H60 (E60 ++ (E56 ++ (E50 ++ E))))))
 (raft_stepper_msg_S19 n t0 t4 H E))
 (endB false false n (.tup []) H E))
 (endB false false n (.tup []) H E))
 ((binA .eql tI cT true a29 (.int .i64 3)).bind fun a61 =>
 condK a61
 ((loadA true 17 t3 H).bind fun a62 =>
 callK (EV C) false n_raft_stepper_app [t0, a62] H fun a63 H63 E63 =>
 endB false false n (.tup []) H63 (E63 ++ E))
 ((binA .eql tI cT true a29 (.int .i64 5)).bind fun a64 =>
 condK a64
 ((loadA true 17 t3 H).bind fun a65 =>
 callK (EV C) false n_raft_stepper_snap [t0, a65] H fun a66 H66 E66 =>
 endB false false n (.tup []) H66 (E66 ++ E))
 ((binA .eql tI cT true a29 (.int .i64 4)).bind fun a67 =>
 condK a67
 ((nilA t4).bind fun a68 =>
 (offA a68 3).bind fun a69 =>
 (loadA false 1 a69 H).bind fun a70 =>
 (binA .eql tI cT true a70 (.int .i64 2)).bind fun a71 =>
 splitK a71
 (callK (EV C) false n_raft_stepper_members [t0] H fun a72 H72 E72 =>
 (offA t3 1).bind fun a73 =>
 (loadA false 1 a73 H72).bind fun a74 =>
 drawK (((loadA false 1 a73 H).bind fun a75 =>
 some a75) = some a74)
 ((callD (EV C) n_conf_Has [a72, a74] H72).bind fun a76 =>
 condK a76
 ((loadA true 17 t3 H72).bind fun a77 =>
 callK (EV C) false n_raft_stepper_ack [t0, a77] H72 fun a78 H78 E78 =>
 endB false false n (.tup []) H78 (E78 ++ (E72 ++ E)))
 (endB false false n (.tup []) H72 (E72 ++ E))))
 (endB false false n (.tup []) H E))
 (endB false false n (.tup []) H E))))))) = some r) : raft_stepper_msg_S5 n t0 t3 t4 H E = some r :=
 Eq.trans (by kernel_rfl) hh
theorem raft_stepper_msg_S19_of {t0 t4 : AV} (hh : (
 callK (EV C) false n_raft_stepper_members [t0] H fun a1 H1 E1 =>
 (nilA t4).bind fun a2 =>
 (offA a2 10).bind fun a3 =>
 (loadA false 1 a3 H1).bind fun a4 =>
 drawK (((loadA false 1 a3 H).bind fun a5 =>
 some a5) = some a4)
 ((callD (EV C) n_conf_Most [a1, a4] H1).bind fun a6 =>
 condK a6
 (callK (EV C) false n_raft_stepper_leads [t0] H1 fun a7 H7 E7 =>
 endB false false n (.tup []) H7 (E7 ++ (E1 ++ E)))
 (endB false false n (.tup []) H1 (E1 ++ E)))) = some r) : raft_stepper_msg_S19 n t0 t4 H E = some r :=
 Eq.trans (by kernel_rfl) hh
theorem raft_stepper_msg_of {x0 x1 : AV} (hh : (fun n => (
 newK x1 H fun a1 H1 E1 =>
 (nilA x0).bind fun a2 =>
 (offA a2 0).bind fun a3 =>
 (offA a1 2).bind fun a4 =>
 (loadA false 1 a4 H1).bind fun a5 =>
 (nilA a3).bind fun a6 =>
 (offA a6 0).bind fun a7 =>
 (loadA false 1 a7 H1).bind fun a8 =>
 (binA .neq tI cT false a5 a8).bind fun a9 =>
 splitK a9
 (endB false false n (.tup []) H1 (E1 ++ []))
 ((offA a1 1).bind fun a10 =>
 (loadA false 1 a10 H1).bind fun a11 =>
 (nilA a3).bind fun a12 =>
 (offA a12 0).bind fun a13 =>
 (loadA false 1 a13 H1).bind fun a14 =>
 (binA .eql tI cT false a11 a14).bind fun a15 =>
 splitK a15
 (endB false false n (.tup []) H1 (E1 ++ []))
 ((offA a1 1).bind fun a16 =>
 (loadA false 1 a16 H1).bind fun a17 =>
 (callD (EV C) n_raft_in [a17, (.int .i64 1), (.int .i64 7)] H1).bind fun a18 =>
 (unA .not a18).bind fun a19 =>
 splitK a19
 (endB false false n (.tup []) H1 (E1 ++ []))
 ((offA a1 3).bind fun a20 =>
 (loadA false 1 a20 H1).bind fun a21 =>
 (callD (EV C) n_raft_in [a21, (.int .i64 1), (.int .i64 1152921504606846976)] H1).bind fun a22 =>
 (unA .not a22).bind fun a23 =>
 splitK a23
 (endB false false n (.tup []) H1 (E1 ++ []))
 ((offA a1 4).bind fun a24 =>
 (loadA false 1 a24 H1).bind fun a25 =>
 (callD (EV C) n_raft_in [a25, z0, (.int .i64 1152921504606846976)] H1).bind fun a26 =>
 (unA .not a26).bind fun a27 =>
 splitK a27
 (endB false false n (.tup []) H1 (E1 ++ []))
 ((offA a1 5).bind fun a28 =>
 (loadA false 1 a28 H1).bind fun a29 =>
 (callD (EV C) n_raft_in [a29, z0, (.int .i64 1152921504606846976)] H1).bind fun a30 =>
 (unA .not a30).bind fun a31 =>
 splitK a31
 (endB false false n (.tup []) H1 (E1 ++ []))
 ((offA a1 6).bind fun a32 =>
 (loadA false 1 a32 H1).bind fun a33 =>
 (callD (EV C) n_raft_in [a33, z0, (.int .i64 1152921504606846976)] H1).bind fun a34 =>
 (unA .not a34).bind fun a35 =>
 condK a35
 (endB false false n (.tup []) H1 (E1 ++ []))
 ((offA a1 3).bind fun a36 =>
 (loadA false 1 a36 H1).bind fun a37 =>
 (nilA a3).bind fun a38 =>
 (offA a38 1).bind fun a39 =>
 (loadA false 1 a39 H1).bind fun a40 =>
 (binA .gtr tI cT false a37 a40).bind fun a41 =>
 condK a41
 ((offA a1 3).bind fun a42 =>
 (loadA false 1 a42 H1).bind fun a43 =>
 (nilA a3).bind fun a44 =>
 (offA a44 1).bind fun a45 =>
 stoK 1 a45 a43 H1 fun H46 E46 =>
 (nilA a3).bind fun a47 =>
 (offA a47 2).bind fun a48 =>
 stoK 1 a48 z0 H46 fun H49 E49 =>
 (nilA a3).bind fun a50 =>
 (offA a50 4).bind fun a51 =>
 stoK 1 a51 z0 H49 fun H52 E52 =>
 (nilA a3).bind fun a53 =>
 (offA a53 3).bind fun a54 =>
 stoK 1 a54 z0 H52 fun H55 E55 =>
 (nilA a3).bind fun a56 =>
 (offA a56 10).bind fun a57 =>
 stoK 1 a57 .nils H55 fun H58 E58 =>
 raft_stepper_msg_S5 n x0 a1 a3 H58 (E58 ++ (E55 ++ (E52 ++ (E49 ++ (E46 ++ (E1 ++ [])))))))
 (raft_stepper_msg_S5 n x0 a1 a3 H1 (E1 ++ []))))))))))) (List.length H) = some r) : EV C n_raft_stepper_msg [x0, x1] H = some r :=
 EV_of_fnK' (fn := Tryz.f16) (by kernel_rfl) (by kernel_rfl) (by kernel_rfl) hh
theorem raft_stepper_last_of {x0 : AV} (hh : (fun n => (
 (nilA x0).bind fun a1 =>
 (offA a1 0).bind fun a2 =>
 (offA a2 5).bind fun a3 =>
 (loadA true 4 a3 H).bind fun a4 =>
 callK (EV C) false n_log_Last [a4] H fun a5 H5 E5 =>
 (extA a5 0).bind fun a6 =>
 (extA a5 1).bind fun a7 =>
 endB false false n a6 H5 (E5 ++ []))) (List.length H) = some r) : EV C n_raft_stepper_last [x0] H = some r :=
 EV_of_fnK' (fn := Tryz.f17) (by kernel_rfl) (by kernel_rfl) (by kernel_rfl) hh
theorem raft_stepper_propose_of {x0 x1 x2 : AV} (hh : (fun n => (
 callK (EV C) false n_raft_stepper_add [x0, x1, x2] H fun a1 H1 E1 =>
 callK (EV C) false n_raft_stepper_last [x0] H1 fun a2 H2 E2 =>
 (nilA x0).bind fun a3 =>
 (offA a3 30).bind fun a4 =>
 stoK 1 a4 a2 H2 fun H5 E5 =>
 callK (EV C) false n_raft_stepper_counts [x0] H5 fun a6 H6 E6 =>
 callK (EV C) false n_raft_stepper_others [x0, (.clo n_raft_stepper_bring [x0] [])] H6 fun a7 H7 E7 =>
 endB false false n (.tup []) H7 (E7 ++ (E6 ++ (E5 ++ (E2 ++ (E1 ++ []))))))) (List.length H) = some r) : EV C n_raft_stepper_propose [x0, x1, x2] H = some r :=
 EV_of_fnK' (fn := Tryz.f18) (by kernel_rfl) (by kernel_rfl) (by kernel_rfl) hh
noncomputable def raft_stepper_change_J7 (n : Nat) (t0 t4 t5 t8 t76 t77 t78 : AV) (H : List AObj) (E : List Nat) : Option R3 :=
 lK 19 Tryz.f19 [1, 1, 1, 1, 1, 1, 0, 1, 0] n
 ⟨pat 103 [(0, t0), (4, t4), (5, t5), (8, t8), (76, t76), (77, t77), (78, t78)], H, E⟩
theorem raft_stepper_change_J7_of {t0 t4 t5 t8 t76 t77 t78 : AV} (hh : (
 (binA .lss tI cT false t78 t77).bind fun a1 =>
 condK a1
 ((ixA 1 t76 t78 H).bind fun a2 =>
 (loadA false 1 a2 H).bind fun a3 =>
 callK (EV C) false n_conf_Has [t5, a3] H fun a4 H4 E4 =>
 (unA .not a4).bind fun a5 =>
 condK a5
 (callK (EV C) false n_raft_stepper_last [t0] H4 fun a6 H6 E6 =>
 (binA .add tI cT true a6 (.int .i64 1)).bind fun a7 =>
 (nilA t4).bind fun a8 =>
 (offA a8 19).bind fun a9 =>
 (arA 8 1 a9 a3).bind fun a10 =>
 stoK 1 a10 z0 H6 fun H11 E11 =>
 (nilA t4).bind fun a12 =>
 (offA a12 11).bind fun a13 =>
 (arA 8 1 a13 a3).bind fun a14 =>
 stoK 1 a14 a7 H11 fun H15 E15 =>
 (binA .add tI cT true t78 (.int .i64 1)).bind fun a16 =>
 raft_stepper_change_J7 n t0 t4 t5 t8 t76 t77 a16 H15 ((E15 ++ (E11 ++ (E6 ++ (E4 ++ [])))) ++ E))
 ((binA .add tI cT true t78 (.int .i64 1)).bind fun a17 =>
 raft_stepper_change_J7 n t0 t4 t5 t8 t76 t77 a17 H4 ((E4 ++ []) ++ E)))
 (callK (EV C) false n_raft_stepper_propose [t0, (.int .i64 2), t8] H fun a18 H18 E18 =>
 endB false false n (.tup []) H18 (E18 ++ E))) = some r) : raft_stepper_change_J7 n t0 t4 t5 t8 t76 t77 t78 H E = some r :=
 loop_step' (by kernel_rfl) hh
theorem raft_stepper_change_of {x0 x1 : AV} (hh : (fun n => (
 (nilA x0).bind fun a1 =>
 (offA a1 0).bind fun a2 =>
 callK (EV C) false n_raft_stepper_members [x0] H fun a3 H3 E3 =>
 (nilA a2).bind fun a4 =>
 (offA a4 5).bind fun a5 =>
 (loadA true 4 a5 H3).bind fun a6 =>
 (nilA a2).bind fun a7 =>
 (offA a7 9).bind fun a8 =>
 (loadA false 1 a8 H3).bind fun a9 =>
 (callD (EV C) n_log_Term [a6, a9] H3).bind fun a10 =>
 (extA a10 0).bind fun a11 =>
 (extA a10 1).bind fun a12 =>
 (nilA a2).bind fun a13 =>
 (offA a13 3).bind fun a14 =>
 (loadA false 1 a14 H3).bind fun a15 =>
 (binA .neq tI cT true a15 (.int .i64 2)).bind fun a16 =>
 splitK a16
 (endB false false n (.tup []) H3 (E3 ++ []))
 (callK (EV C) false n_conf_Step [a3, x1] H3 fun a17 H17 E17 =>
 (unA .not a17).bind fun a18 =>
 splitK a18
 (endB false false n (.tup []) H17 (E17 ++ (E3 ++ [])))
 ((nilA a2).bind fun a19 =>
 (offA a19 0).bind fun a20 =>
 (loadA false 1 a20 H17).bind fun a21 =>
 callK (EV C) false n_conf_Has [a3, a21] H17 fun a22 H22 E22 =>
 (unA .not a22).bind fun a23 =>
 splitK a23
 (endB false false n (.tup []) H22 (E22 ++ (E17 ++ (E3 ++ []))))
 (callK (EV C) false n_raft_stepper_last [x0] H22 fun a24 H24 E24 =>
 (binA .geq tI cT true a24 (.int .i64 1152921504606846976)).bind fun a25 =>
 splitK a25
 (endB false false n (.tup []) H24 (E24 ++ (E22 ++ (E17 ++ (E3 ++ [])))))
 ((binA .neq (Go.TypeDesc.interface #[("Error", 121)]) cT true a12 .nili).bind fun a26 =>
 splitK a26
 (endB false false n (.tup []) H24 (E24 ++ (E22 ++ (E17 ++ (E3 ++ [])))))
 ((nilA a2).bind fun a27 =>
 (offA a27 1).bind fun a28 =>
 (loadA false 1 a28 H24).bind fun a29 =>
 (binA .neq tI cT false a11 a29).bind fun a30 =>
 splitK a30
 (endB false false n (.tup []) H24 (E24 ++ (E22 ++ (E17 ++ (E3 ++ [])))))
 (callK (EV C) false n_raft_stepper_pending [x0] H24 fun a31 H31 E31 =>
 condK a31
 (endB false false n (.tup []) H31 (E31 ++ (E24 ++ (E22 ++ (E17 ++ (E3 ++ []))))))
 (callK (EV C) false n_conf_Bytes [x1] H31 fun a32 H32 E32 =>
 (extA a32 0).bind fun a33 =>
 (extA a32 1).bind fun a34 =>
 (binA .neq (Go.TypeDesc.interface #[("Error", 121)]) cT true a34 .nili).bind fun a35 =>
 condK a35
 (endB false false n (.tup []) H32 (E32 ++ (E31 ++ (E24 ++ (E22 ++ (E17 ++ (E3 ++ [])))))))
 ((lenV x1 H32).bind fun a36 =>
 raft_stepper_change_J7 n x0 a2 a3 a33 x1 a36 z0 H32 (E32 ++ (E31 ++ (E24 ++ (E22 ++ (E17 ++ (E3 ++ [])))))))))))))))) (List.length H) = some r) : EV C n_raft_stepper_change [x0, x1] H = some r :=
 EV_of_fnK' (fn := Tryz.f19) (by kernel_rfl) (by kernel_rfl) (by kernel_rfl) hh
theorem log_Compact_of {x0 x1 : AV} (hh : (fun n => (
 newK x0 H fun a1 H1 E1 =>
 newK (.agg [z0, z0, .nils, .nils]) H1 fun a2 H2 E2 =>
 (loadA true 4 a1 H2).bind fun a3 =>
 callK (EV C) false n_log_asked [a3, x1] H2 fun a4 H4 E4 =>
 (binA .neq (Go.TypeDesc.interface #[("Error", 121)]) cT true a4 .nili).bind fun a5 =>
 condK a5
 ((fillB (AV.cells (.agg [z0, z0, .nils, .nils])) []).bind fun c6 =>
 stoK 4 a2 (.agg c6) H4 fun H7 E7 =>
 (loadA true 4 a2 H7).bind fun a8 =>
 endB false false n (.tup [a8, a4]) H7 (E7 ++ (E4 ++ (E2 ++ (E1 ++ [])))))
 ((loadA true 4 a1 H4).bind fun a9 =>
 (callD (EV C) n_log_term [a9, x1] H4).bind fun a10 =>
 (loadA true 4 a1 H4).bind fun a11 =>
 (callD (EV C) n_log_Members [a11, x1] H4).bind fun a12 =>
 (fillB (AV.cells (.agg [z0, z0, .nils])) [(0, 1, x1), (1, 1, a10), (2, 1, a12)]).bind fun c13 =>
 (offA a1 3).bind fun a14 =>
 (loadA false 1 a14 H4).bind fun a15 =>
 (offA a1 0).bind fun a16 =>
 (offA a16 0).bind fun a17 =>
 (loadA false 1 a17 H4).bind fun a18 =>
 (binA .sub tI cT false x1 a18).bind fun a19 =>
 (cutA 3 a15 (some a19) none none H4).bind fun a20 =>
 (callD (EV C) n_Clone_api_Entry [a20] H4).bind fun a21 =>
 (fillB (AV.cells (.agg [z0, z0, .nils, .nils])) [(0, 3, (.agg c13)), (3, 1, a21)]).bind fun c22 =>
 stoK 4 a2 (.agg c22) H4 fun H23 E23 =>
 (loadA true 4 a2 H23).bind fun a24 =>
 endB false false n (.tup [a24, .nili]) H23 (E23 ++ (E4 ++ (E2 ++ (E1 ++ []))))))) (List.length H) = some r) : EV C n_log_Compact [x0, x1] H = some r :=
 EV_of_fnK' (fn := Tryz.f20) (by kernel_rfl) (by kernel_rfl) (by kernel_rfl) hh
noncomputable def log_Check_J5 (n : Nat) (t3 t40 t41 t42 : AV) (H : List AObj) (E : List Nat) : Option R3 :=
 lK 21 Tryz.f21 [1, 1, 1, 0, 1, 0] n
 ⟨pat 54 [(3, t3), (40, t40), (41, t41), (42, t42)], H, E⟩
theorem log_Check_J5_of {t3 t40 t41 t42 : AV} (hh : (
 (binA .lss tI cT false t42 t41).bind fun a1 =>
 condK a1
 ((ixA 3 t40 t42 H).bind fun a2 =>
 (loadA true 3 a2 H).bind fun a3 =>
 newK (.agg [z0, z0, .nils]) H fun a4 H4 E4 =>
 stoK 3 a4 a3 H4 fun H5 E5 =>
 (loadA true 3 a4 H5).bind fun a6 =>
 callK (EV C) false n_log_entry [a6, t3] H5 fun a7 H7 E7 =>
 (unA .not a7).bind fun a8 =>
 condK a8
 (endB false false n (.ifc t_api_Code (.int .i64 3)) H7 ((E7 ++ (E5 ++ (E4 ++ []))) ++ E))
 ((offA a4 0).bind fun a9 =>
 (loadA false 1 a9 H7).bind fun a10 =>
 (binA .add tI cT true t42 (.int .i64 1)).bind fun a11 =>
 condB (List.all (E7 ++ (E5 ++ (E4 ++ []))) (fun e => decide (List.length H ≤ e)) && (AV.bel (List.length H) a10 && (AV.bel (List.length H) t40 && (AV.bel (List.length H) t41 && (AV.bel (List.length H) a11 && true)))))
 (log_Check_J5 n a10 t40 t41 a11 (List.take (List.length H) H7) E)))
 (endB false false n .nili H E)) = some r) : log_Check_J5 n t3 t40 t41 t42 H E = some r :=
 loop_step' (by kernel_rfl) hh
theorem log_Check_of {x0 : AV} (hh : (fun n => (
 newK x0 H fun a1 H1 E1 =>
 (offA a1 0).bind fun a2 =>
 (offA a2 0).bind fun a3 =>
 (loadA false 1 a3 H1).bind fun a4 =>
 callK (EV C) false n_log_count [a4] H1 fun a5 H5 E5 =>
 (unA .not a5).bind fun a6 =>
 splitK a6
 (endB false false n (.ifc t_api_Code (.int .i64 3)) H5 (E5 ++ (E1 ++ [])))
 ((offA a1 0).bind fun a7 =>
 (offA a7 1).bind fun a8 =>
 (loadA false 1 a8 H5).bind fun a9 =>
 callK (EV C) false n_log_count [a9] H5 fun a10 H10 E10 =>
 (unA .not a10).bind fun a11 =>
 splitK a11
 (endB false false n (.ifc t_api_Code (.int .i64 3)) H10 (E10 ++ (E5 ++ (E1 ++ []))))
 ((offA a1 0).bind fun a12 =>
 (offA a12 2).bind fun a13 =>
 (loadA false 1 a13 H10).bind fun a14 =>
 callK (EV C) false n_conf_May [a14] H10 fun a15 H15 E15 =>
 (unA .not a15).bind fun a16 =>
 splitK a16
 (endB false false n (.ifc t_api_Code (.int .i64 3)) H15 (E15 ++ (E10 ++ (E5 ++ (E1 ++ [])))))
 ((offA a1 3).bind fun a17 =>
 (loadA false 1 a17 H15).bind fun a18 =>
 (lenV a18 H15).bind fun a19 =>
 (offA a1 0).bind fun a20 =>
 (offA a20 0).bind fun a21 =>
 (loadA false 1 a21 H15).bind fun a22 =>
 (binA .sub tI cT true (.int .i64 1152921504606846976) a22).bind fun a23 =>
 (binA .gtr tI cT false a19 a23).bind fun a24 =>
 condK a24
 (endB false false n (.ifc t_api_Code (.int .i64 3)) H15 (E15 ++ (E10 ++ (E5 ++ (E1 ++ [])))))
 ((offA a1 0).bind fun a25 =>
 (offA a25 1).bind fun a26 =>
 (loadA false 1 a26 H15).bind fun a27 =>
 (offA a1 3).bind fun a28 =>
 (loadA false 1 a28 H15).bind fun a29 =>
 (lenV a29 H15).bind fun a30 =>
 log_Check_J5 n a27 a29 a30 z0 H15 (E15 ++ (E10 ++ (E5 ++ (E1 ++ [])))))))))) (List.length H) = some r) : EV C n_log_Check [x0] H = some r :=
 EV_of_fnK' (fn := Tryz.f21) (by kernel_rfl) (by kernel_rfl) (by kernel_rfl) hh
theorem log_Last_of {x0 : AV} (hh : (fun n => (
 newK x0 H fun a1 H1 E1 =>
 (loadA true 4 a1 H1).bind fun a2 =>
 callK (EV C) false n_log_Check [a2] H1 fun a3 H3 E3 =>
 (binA .neq (Go.TypeDesc.interface #[("Error", 121)]) cT true a3 .nili).bind fun a4 =>
 condK a4
 (endB false false n (.tup [z0, z0]) H3 (E3 ++ (E1 ++ [])))
 ((loadA true 4 a1 H3).bind fun a5 =>
 (callD (EV C) n_log_last [a5] H3).bind fun a6 =>
 (loadA true 4 a1 H3).bind fun a7 =>
 (loadA true 4 a1 H3).bind fun a8 =>
 (callD (EV C) n_log_last [a8] H3).bind fun a9 =>
 (callD (EV C) n_log_term [a7, a9] H3).bind fun a10 =>
 endB false false n (.tup [a6, a10]) H3 (E3 ++ (E1 ++ []))))) (List.length H) = some r) : EV C n_log_Last [x0] H = some r :=
 EV_of_fnK' (fn := Tryz.f22) (by kernel_rfl) (by kernel_rfl) (by kernel_rfl) hh
theorem raft_in_of {x0 x1 x2 : AV} (hh : (fun n => (
 (binA .geq tI cT false x0 x1).bind fun a1 =>
 splitK a1
 ((binA .leq tI cT false x0 x2).bind fun a2 =>
 endB false false n a2 H [])
 (endB false false n (.bool false) H []))) (List.length H) = some r) : EV C n_raft_in [x0, x1, x2] H = some r :=
 EV_of_fnK' (fn := Tryz.f23) (by kernel_rfl) (by kernel_rfl) (by kernel_rfl) hh
theorem Contains_int_of {x0 x1 : AV} (hh : (fun n => (
 callK (EV C) false n_Index_int [x0, x1] H fun a1 H1 E1 =>
 (binA .geq tI cT true a1 z0).bind fun a2 =>
 endB false false n a2 H1 (E1 ++ []))) (List.length H) = some r) : EV C n_Contains_int [x0, x1] H = some r :=
 EV_of_fnK' (fn := Tryz.f24) (by kernel_rfl) (by kernel_rfl) (by kernel_rfl) hh
end Go.Pm
