/- A part of the proof: what the functions of the program answer, as plain lists and numbers. -/
import Derived.Test.YtndkpoacbheemaaGreatP8
namespace Go.Pm
set_option linter.unusedVariables false
open Go.Proofs
variable {r : R3} {n : Nat} {H : List AObj} {E : List Nat}
set_option linter.unusedVariables false
set_option maxRecDepth 100000
theorem conf_Has_of {x0 x1 : AV} (hh : (fun n => (
 callK (EV C) false n_Contains_int [x0, x1] H fun a1 H1 E1 =>
 endB false false n a1 H1 (E1 ++ []))) (List.length H) = some r) : EV C n_conf_Has [x0, x1] H = some r :=
 EV_of_fnK' (fn := Tryz.f47) (by kernel_rfl) (by kernel_rfl) (by kernel_rfl) hh
theorem raft_stepper_members_of {x0 : AV} (hh : (fun n => (
 (nilA x0).bind fun a1 =>
 (offA a1 0).bind fun a2 =>
 (offA a2 5).bind fun a3 =>
 (loadA true 4 a3 H).bind fun a4 =>
 callK (EV C) false n_raft_stepper_last [x0] H fun a5 H5 E5 =>
 drawK (((loadA true 4 a3 H5).bind fun a6 =>
 some a6) = some a4)
 ((callD (EV C) n_log_Members [a4, a5] H5).bind fun a7 =>
 endB false false n a7 H5 (E5 ++ [])))) (List.length H) = some r) : EV C n_raft_stepper_members [x0] H = some r :=
 EV_of_fnK' (fn := Tryz.f48) (by kernel_rfl) (by kernel_rfl) (by kernel_rfl) hh
theorem raft_stepper_stands_of {x0 x1 : AV} (hh : (fun n => (
 newK x0 H fun a1 H1 E1 =>
 (loadA false 1 a1 H1).bind fun a2 =>
 (nilA a2).bind fun a3 =>
 (offA a3 0).bind fun a4 =>
 (nilA a4).bind fun a5 =>
 (offA a5 1).bind fun a6 =>
 (loadA false 1 a6 H1).bind fun a7 =>
 (binA .add tI cT true a7 (.int .i64 1)).bind fun a8 =>
 (nilA a4).bind fun a9 =>
 (offA a9 1).bind fun a10 =>
 stoK 1 a10 a8 H1 fun H11 E11 =>
 (nilA a4).bind fun a12 =>
 (offA a12 0).bind fun a13 =>
 (loadA false 1 a13 H11).bind fun a14 =>
 (nilA a4).bind fun a15 =>
 (offA a15 0).bind fun a16 =>
 (loadA false 1 a16 H11).bind fun a17 =>
 (litD 1 1 z0 [(0, a17)] H11).bind fun a18 =>
 (callD (EV C) n_raft_timeout [x1] H11).bind fun a19 =>
 (nilA a4).bind fun a20 =>
 (offA a20 3).bind fun a21 =>
 stoK 1 a21 (.int .i64 1) H11 fun H22 E22 =>
 drawK (((litD 1 1 z0 [(0, a17)] H22).bind fun a23 =>
 some a23) = some a18)
 ((nilA a4).bind fun a24 =>
 (offA a24 2).bind fun a25 =>
 stoK 1 a25 a14 H22 fun H26 E26 =>
 drawK (((litD 1 1 z0 [(0, a17)] H26).bind fun a27 =>
 some a27) = some a18)
 ((nilA a4).bind fun a28 =>
 (offA a28 10).bind fun a29 =>
 stoK 1 a29 a18 H26 fun H30 E30 =>
 (nilA a4).bind fun a31 =>
 (offA a31 4).bind fun a32 =>
 stoK 1 a32 z0 H30 fun H33 E33 =>
 (nilA a4).bind fun a34 =>
 (offA a34 27).bind fun a35 =>
 stoK 1 a35 z0 H33 fun H36 E36 =>
 (nilA a4).bind fun a37 =>
 (offA a37 28).bind fun a38 =>
 stoK 1 a38 a19 H36 fun H39 E39 =>
 (loadA false 1 a1 H39).bind fun a40 =>
 callK (EV C) false n_raft_stepper_members [a40] H39 fun a41 H41 E41 =>
 (nilA a4).bind fun a42 =>
 (offA a42 10).bind fun a43 =>
 (loadA false 1 a43 H41).bind fun a44 =>
 drawK (((loadA false 1 a43 H39).bind fun a45 =>
 some a45) = some a44)
 ((callD (EV C) n_conf_Most [a41, a44] H41).bind fun a46 =>
 condK a46
 ((loadA false 1 a1 H41).bind fun a47 =>
 callK (EV C) false n_raft_stepper_leads [a47] H41 fun a48 H48 E48 =>
 endB false false n (.tup []) H48 (E48 ++ (E41 ++ (E39 ++ (E36 ++ (E33 ++ (E30 ++ (E26 ++ (E22 ++ (E11 ++ (E1 ++ [])))))))))))
 ((nilA a4).bind fun a49 =>
 (offA a49 5).bind fun a50 =>
 (loadA true 4 a50 H41).bind fun a51 =>
 callK (EV C) false n_log_Last [a51] H41 fun a52 H52 E52 =>
 (extA a52 0).bind fun a53 =>
 (extA a52 1).bind fun a54 =>
 newK z0 H52 fun a55 H55 E55 =>
 newK z0 H55 fun a56 H56 E56 =>
 stoK 1 a55 a53 H56 fun H57 E57 =>
 stoK 1 a56 a54 H57 fun H58 E58 =>
 (loadA false 1 a1 H58).bind fun a59 =>
 callK (EV C) false n_raft_stepper_others [a59, (.clo n_raft_stepper_stands_1 [] [a1, a55, a56])] H58 fun a60 H60 E60 =>
 endB false false n (.tup []) H60 (E60 ++ (E58 ++ (E57 ++ (E56 ++ (E55 ++ (E52 ++ (E41 ++ (E39 ++ (E36 ++ (E33 ++ (E30 ++ (E26 ++ (E22 ++ (E11 ++ (E1 ++ []))))))))))))))))))))) (List.length H) = some r) : EV C n_raft_stepper_stands [x0, x1] H = some r :=
 EV_of_fnK' (fn := Tryz.f49) (by kernel_rfl) (by kernel_rfl) (by kernel_rfl) hh
theorem raft_stepper_send_of {x0 x1 x2 : AV} (hh : (fun n => (
 newK x2 H fun a1 H1 E1 =>
 (nilA x0).bind fun a2 =>
 (offA a2 0).bind fun a3 =>
 (offA a3 0).bind fun a4 =>
 (loadA false 1 a4 H1).bind fun a5 =>
 (nilA x0).bind fun a6 =>
 (offA a6 0).bind fun a7 =>
 (offA a7 1).bind fun a8 =>
 (loadA false 1 a8 H1).bind fun a9 =>
 (offA a1 1).bind fun a10 =>
 stoK 1 a10 a5 H1 fun H11 E11 =>
 drawK (((loadA false 1 a8 H11).bind fun a12 =>
 some a12) = some a9)
 ((offA a1 2).bind fun a13 =>
 stoK 1 a13 x1 H11 fun H14 E14 =>
 drawK (((loadA false 1 a8 H14).bind fun a15 =>
 some a15) = some a9)
 ((offA a1 3).bind fun a16 =>
 stoK 1 a16 a9 H14 fun H17 E17 =>
 (nilA x0).bind fun a18 =>
 (offA a18 29).bind fun a19 =>
 (loadA false 1 a19 H17).bind fun a20 =>
 (loadA true 17 a1 H17).bind fun a21 =>
 (litD 17 1 (.agg [z0, z0, z0, z0, z0, z0, z0, (.bool false), .nils, .nils, z0, .nils, z0, .nils, .nils, .nils, .nils]) [(0, a21)] H17).bind fun a22 =>
 appK 17 248 a20 a22 H17 fun a23 H23 E23 =>
 (nilA x0).bind fun a24 =>
 (offA a24 29).bind fun a25 =>
 stoK 1 a25 a23 H23 fun H26 E26 =>
 endB false false n (.tup []) H26 (E26 ++ (E23 ++ (E17 ++ (E14 ++ (E11 ++ (E1 ++ [])))))))))) (List.length H) = some r) : EV C n_raft_stepper_send [x0, x1, x2] H = some r :=
 EV_of_fnK' (fn := Tryz.f50) (by kernel_rfl) (by kernel_rfl) (by kernel_rfl) hh
noncomputable def raft_stepper_ask_S4 (n : Nat) (t0 t3 t4 t7 : AV) (H : List AObj) (E : List Nat) : Option R3 :=
 runK Tryz.prog C.G (EV C) (C.hint 51) Tryz.f51 (cAt (bodyOf Tryz.f51) [1, 1, 1, 1]) ⟨pat 73 [(0, t0), (3, t3), (4, t4), (7, t7)], H, E⟩
 (kAt Tryz.prog C.G (EV C) (C.hint 51) Tryz.f51 (bodyOf Tryz.f51) [1, 1, 1, 1] [] (endK Tryz.prog (C.hint 51) Tryz.f51 n))
noncomputable def raft_stepper_ask_S6 (n : Nat) (t0 t3 t7 : AV) (H : List AObj) (E : List Nat) : Option R3 :=
 runK Tryz.prog C.G (EV C) (C.hint 51) Tryz.f51 (cAt (bodyOf Tryz.f51) [1, 1, 1, 1, 1]) ⟨pat 73 [(0, t0), (3, t3), (7, t7)], H, E⟩
 (kAt Tryz.prog C.G (EV C) (C.hint 51) Tryz.f51 (bodyOf Tryz.f51) [1, 1, 1, 1, 1] [] (endK Tryz.prog (C.hint 51) Tryz.f51 n))
theorem raft_stepper_ask_S4_of {t0 t3 t4 t7 : AV} (hh : (
 condK t7
 ((offA t3 1).bind fun a1 =>
 (loadA false 1 a1 H).bind fun a2 =>
 (nilA t4).bind fun a3 =>
 (offA a3 2).bind fun a4 =>
 stoK 1 a4 a2 H fun H5 E5 =>
 (nilA t4).bind fun a6 =>
 (offA a6 27).bind fun a7 =>
 stoK 1 a7 z0 H5 fun H8 E8 =>
 raft_stepper_ask_S6 n t0 t3 t7 H8 (E8 ++ (E5 ++ E)))
 (raft_stepper_ask_S6 n t0 t3 t7 H E)) = some r) : raft_stepper_ask_S4 n t0 t3 t4 t7 H E = some r :=
 Eq.trans (by kernel_rfl) hh
theorem raft_stepper_ask_S6_of {t0 t3 t7 : AV} (hh : (
 (offA t3 1).bind fun a1 =>
 (loadA false 1 a1 H).bind fun a2 =>
 (fillB (AV.cells (.agg [z0, z0, z0, z0, z0, z0, z0, (.bool false), .nils, .nils, z0, .nils, z0, .nils, .nils, .nils, .nils])) [(0, 1, (.int .i64 2)), (7, 1, t7)]).bind fun c3 =>
 callK (EV C) false n_raft_stepper_send [t0, a2, (.agg c3)] H fun a4 H4 E4 =>
 endB false false n (.tup []) H4 (E4 ++ E)) = some r) : raft_stepper_ask_S6 n t0 t3 t7 H E = some r :=
 Eq.trans (by kernel_rfl) hh
theorem raft_stepper_ask_of {x0 x1 : AV} (hh : (fun n => (
 newK x1 H fun a1 H1 E1 =>
 (nilA x0).bind fun a2 =>
 (offA a2 0).bind fun a3 =>
 (nilA a3).bind fun a4 =>
 (offA a4 5).bind fun a5 =>
 (loadA true 4 a5 H1).bind fun a6 =>
 callK (EV C) false n_log_Last [a6] H1 fun a7 H7 E7 =>
 (extA a7 0).bind fun a8 =>
 (extA a7 1).bind fun a9 =>
 (nilA a3).bind fun a10 =>
 (offA a10 3).bind fun a11 =>
 (loadA false 1 a11 H7).bind fun a12 =>
 (binA .eql tI cT true a12 z0).bind fun a13 =>
 splitK a13
 ((nilA a3).bind fun a14 =>
 (offA a14 2).bind fun a15 =>
 (loadA false 1 a15 H7).bind fun a16 =>
 (binA .eql tI cT true a16 z0).bind fun a17 =>
 splitK a17
 ((offA a1 5).bind fun a18 =>
 (loadA false 1 a18 H7).bind fun a19 =>
 (binA .gtr tI cT false a19 a9).bind fun a20 =>
 splitK a20
 (raft_stepper_ask_S4 n x0 a1 a3 (.bool true) H7 (E7 ++ (E1 ++ [])))
 ((offA a1 5).bind fun a21 =>
 (loadA false 1 a21 H7).bind fun a22 =>
 (binA .eql tI cT false a22 a9).bind fun a23 =>
 splitK a23
 ((offA a1 4).bind fun a24 =>
 (loadA false 1 a24 H7).bind fun a25 =>
 (binA .geq tI cT false a25 a8).bind fun a26 =>
 raft_stepper_ask_S4 n x0 a1 a3 a26 H7 (E7 ++ (E1 ++ [])))
 (raft_stepper_ask_S4 n x0 a1 a3 (.bool false) H7 (E7 ++ (E1 ++ [])))))
 ((nilA a3).bind fun a27 =>
 (offA a27 2).bind fun a28 =>
 (loadA false 1 a28 H7).bind fun a29 =>
 (offA a1 1).bind fun a30 =>
 (loadA false 1 a30 H7).bind fun a31 =>
 (binA .eql tI cT false a29 a31).bind fun a32 =>
 splitK a32
 ((offA a1 5).bind fun a33 =>
 (loadA false 1 a33 H7).bind fun a34 =>
 (binA .gtr tI cT false a34 a9).bind fun a35 =>
 splitK a35
 (raft_stepper_ask_S4 n x0 a1 a3 (.bool true) H7 (E7 ++ (E1 ++ [])))
 ((offA a1 5).bind fun a36 =>
 (loadA false 1 a36 H7).bind fun a37 =>
 (binA .eql tI cT false a37 a9).bind fun a38 =>
 splitK a38
 ((offA a1 4).bind fun a39 =>
 (loadA false 1 a39 H7).bind fun a40 =>
 (binA .geq tI cT false a40 a8).bind fun a41 =>
 raft_stepper_ask_S4 n x0 a1 a3 a41 H7 (E7 ++ (E1 ++ [])))
 (raft_stepper_ask_S4 n x0 a1 a3 (.bool false) H7 (E7 ++ (E1 ++ [])))))
 (raft_stepper_ask_S4 n x0 a1 a3 (.bool false) H7 (E7 ++ (E1 ++ [])))))
 (raft_stepper_ask_S4 n x0 a1 a3 (.bool false) H7 (E7 ++ (E1 ++ []))))) (List.length H) = some r) : EV C n_raft_stepper_ask [x0, x1] H = some r :=
 EV_of_fnK' (fn := Tryz.f51) (by kernel_rfl) (by kernel_rfl) (by kernel_rfl) hh
theorem Clone_int_of {x0 : AV} (hh : (fun n => (
 (binA .eql (Go.TypeDesc.slice 3) cT true x0 .nils).bind fun a1 =>
 condK a1
 (endB false false n .nils H [])
 ((appD 1 8 (AV.emp none) x0 H).bind fun a2 =>
 endB false false n a2 H []))) (List.length H) = some r) : EV C0 n_Clone_int [x0] H = some r :=
 EV_of_fnK' (fn := Tryz.f52) (by kernel_rfl) (by kernel_rfl) (by kernel_rfl) hh
noncomputable def conf_Most_J3 (n : Nat) (t0 t1 t5 t8 t9 t10 : AV) (H : List AObj) (E : List Nat) : Option R3 :=
 lK 53 Tryz.f53 [1, 1, 0, 1, 0] n
 ⟨pat 29 [(0, t0), (1, t1), (5, t5), (8, t8), (9, t9), (10, t10)], H, E⟩
theorem conf_Most_J3_of {t0 t1 t5 t8 t9 t10 : AV} (hh : (
 (binA .lss tI cT false t10 t9).bind fun a1 =>
 condK a1
 ((ixA 1 t8 t10 H).bind fun a2 =>
 (loadA false 1 a2 H).bind fun a3 =>
 callK (EV C) false n_conf_Has [t1, a3] H fun a4 H4 E4 =>
 condK a4
 ((binA .add tI cT true t5 (.int .i64 1)).bind fun a5 =>
 (binA .add tI cT true t10 (.int .i64 1)).bind fun a6 =>
 conf_Most_J3 n t0 t1 a5 t8 t9 a6 H4 ((E4 ++ []) ++ E))
 ((binA .add tI cT true t10 (.int .i64 1)).bind fun a7 =>
 conf_Most_J3 n t0 t1 t5 t8 t9 a7 H4 ((E4 ++ []) ++ E)))
 (callK (EV C) false n_conf_May [t0] H fun a8 H8 E8 =>
 splitK a8
 ((binA .mul tI cT true (.int .i64 2) t5).bind fun a9 =>
 (lenV t0 H8).bind fun a10 =>
 (binA .gtr tI cT false a9 a10).bind fun a11 =>
 endB false false n a11 H8 (E8 ++ E))
 (endB false false n (.bool false) H8 (E8 ++ E)))) = some r) : conf_Most_J3 n t0 t1 t5 t8 t9 t10 H E = some r :=
 loop_step' (by kernel_rfl) hh
theorem conf_Most_of {x0 x1 : AV} (hh : (fun n => (
 (lenV x0 H).bind fun a1 =>
 conf_Most_J3 n x0 x1 z0 x0 a1 z0 H [])) (List.length H) = some r) : EV C n_conf_Most [x0, x1] H = some r :=
 EV_of_fnK' (fn := Tryz.f53) (by kernel_rfl) (by kernel_rfl) (by kernel_rfl) hh
noncomputable def raft_stepper_leads_J3 (n : Nat) (t0 t2 t23 : AV) (H : List AObj) (E : List Nat) : Option R3 :=
 lK 54 Tryz.f54 [1, 1, 0, 1, 0] n
 ⟨pat 49 [(0, t0), (2, t2), (23, t23)], H, E⟩
theorem raft_stepper_leads_J3_of {t0 t2 t23 : AV} (hh : (
 (binA .lss tI cT true t23 (.int .i64 8)).bind fun a1 =>
 condK a1
 (callK (EV C) false n_raft_stepper_last [t0] H fun a2 H2 E2 =>
 (binA .add tI cT true a2 (.int .i64 1)).bind fun a3 =>
 (minA [a3, (.int .i64 1152921504606846976)]).bind fun a4 =>
 (nilA t2).bind fun a5 =>
 (offA a5 11).bind fun a6 =>
 (arA 8 1 a6 t23).bind fun a7 =>
 stoK 1 a7 a4 H2 fun H8 E8 =>
 (nilA t2).bind fun a9 =>
 (offA a9 19).bind fun a10 =>
 (arA 8 1 a10 t23).bind fun a11 =>
 stoK 1 a11 z0 H8 fun H12 E12 =>
 (binA .add tI cT true t23 (.int .i64 1)).bind fun a13 =>
 raft_stepper_leads_J3 n t0 t2 a13 H12 ((E12 ++ (E8 ++ (E2 ++ []))) ++ E))
 (callK (EV C) false n_raft_stepper_add [t0, z0, .nils] H fun a14 H14 E14 =>
 callK (EV C) false n_raft_stepper_counts [t0] H14 fun a15 H15 E15 =>
 callK (EV C) false n_raft_stepper_others [t0, (.clo n_raft_stepper_bring [t0] [])] H15 fun a16 H16 E16 =>
 endB false false n (.tup []) H16 (E16 ++ (E15 ++ (E14 ++ E))))) = some r) : raft_stepper_leads_J3 n t0 t2 t23 H E = some r :=
 loop_step' (by kernel_rfl) hh
theorem raft_stepper_leads_of {x0 : AV} (hh : (fun n => (
 (nilA x0).bind fun a1 =>
 (offA a1 0).bind fun a2 =>
 (nilA a2).bind fun a3 =>
 (offA a3 0).bind fun a4 =>
 (loadA false 1 a4 H).bind fun a5 =>
 (nilA a2).bind fun a6 =>
 (offA a6 3).bind fun a7 =>
 stoK 1 a7 (.int .i64 2) H fun H8 E8 =>
 (nilA a2).bind fun a9 =>
 (offA a9 4).bind fun a10 =>
 stoK 1 a10 a5 H8 fun H11 E11 =>
 (nilA a2).bind fun a12 =>
 (offA a12 27).bind fun a13 =>
 stoK 1 a13 z0 H11 fun H14 E14 =>
 (nilA a2).bind fun a15 =>
 (offA a15 10).bind fun a16 =>
 stoK 1 a16 .nils H14 fun H17 E17 =>
 raft_stepper_leads_J3 n x0 a2 z0 H17 (E17 ++ (E14 ++ (E11 ++ (E8 ++ [])))))) (List.length H) = some r) : EV C n_raft_stepper_leads [x0] H = some r :=
 EV_of_fnK' (fn := Tryz.f54) (by kernel_rfl) (by kernel_rfl) (by kernel_rfl) hh
noncomputable def raft_stepper_app_S11 (n : Nat) (t0 t3 t4 t5 t6 : AV) (H : List AObj) (E : List Nat) : Option R3 :=
 runK Tryz.prog C.G (EV C) (C.hint 55) Tryz.f55 (cAt (bodyOf Tryz.f55) [1, 1, 1, 1, 1, 1]) ⟨pat 128 [(0, t0), (3, t3), (4, t4), (5, t5), (6, t6)], H, E⟩
 (kAt Tryz.prog C.G (EV C) (C.hint 55) Tryz.f55 (bodyOf Tryz.f55) [1, 1, 1, 1, 1, 1] [] (endK Tryz.prog (C.hint 55) Tryz.f55 n))
theorem raft_stepper_app_S11_of {t0 t3 t4 t5 t6 : AV} (hh : (
 (nilA t4).bind fun a1 =>
 (offA a1 5).bind fun a2 =>
 (loadA true 4 a2 H).bind fun a3 =>
 callK (EV C) false n_log_Merge [a3, t5, t6] H fun a4 H4 E4 =>
 (extA a4 0).bind fun a5 =>
 (extA a4 1).bind fun a6 =>
 (extA a4 2).bind fun a7 =>
 newK (.agg [z0, z0, .nils, .nils]) H4 fun a8 H8 E8 =>
 stoK 4 a8 a5 H8 fun H9 E9 =>
 (binA .neq (Go.TypeDesc.interface #[("Error", 121)]) cT true a7 .nili).bind fun a10 =>
 splitK a10
 (endB false false n (.tup []) H9 (E9 ++ (E8 ++ (E4 ++ E))))
 ((nilA t4).bind fun a11 =>
 (offA a11 9).bind fun a12 =>
 (loadA false 1 a12 H9).bind fun a13 =>
 (binA .leq tI cT false a6 a13).bind fun a14 =>
 splitK a14
 (endB false false n (.tup []) H9 (E9 ++ (E8 ++ (E4 ++ E))))
 (callK (EV C) false n_ContainsFunc_api_Entry [t6, (.clo n_raft_stepper_app_1 [] [t3])] H9 fun a15 H15 E15 =>
 condK a15
 (endB false false n (.tup []) H15 (E15 ++ (E9 ++ (E8 ++ (E4 ++ E)))))
 ((loadA true 4 a8 H15).bind fun a16 =>
 (nilA t4).bind fun a17 =>
 (offA a17 5).bind fun a18 =>
 stoK 4 a18 a16 H15 fun H19 E19 =>
 (lenV t6 H19).bind fun a20 =>
 (binA .add tI cT false t5 a20).bind fun a21 =>
 (nilA t4).bind fun a22 =>
 (offA a22 9).bind fun a23 =>
 (loadA false 1 a23 H19).bind fun a24 =>
 (offA t3 6).bind fun a25 =>
 (loadA false 1 a25 H19).bind fun a26 =>
 (minA [a26, a21]).bind fun a27 =>
 (maxA [a24, a27]).bind fun a28 =>
 (nilA t4).bind fun a29 =>
 (offA a29 9).bind fun a30 =>
 stoK 1 a30 a28 H19 fun H31 E31 =>
 (offA t3 1).bind fun a32 =>
 (loadA false 1 a32 H31).bind fun a33 =>
 (fillB (AV.cells (.agg [z0, z0, z0, z0, z0, z0, z0, (.bool false), .nils, .nils, z0, .nils, z0, .nils, .nils, .nils, .nils])) [(0, 1, (.int .i64 4)), (7, 1, (.bool true)), (4, 1, a21)]).bind fun c34 =>
 callK (EV C) false n_raft_stepper_send [t0, a33, (.agg c34)] H31 fun a35 H35 E35 =>
 endB false false n (.tup []) H35 (E35 ++ (E31 ++ (E19 ++ (E15 ++ (E9 ++ (E8 ++ (E4 ++ E))))))))))) = some r) : raft_stepper_app_S11 n t0 t3 t4 t5 t6 H E = some r :=
 Eq.trans (by kernel_rfl) hh
theorem raft_stepper_app_of {x0 x1 : AV} (hh : (fun n => (
 newK x1 H fun a1 H1 E1 =>
 (nilA x0).bind fun a2 =>
 (offA a2 0).bind fun a3 =>
 (nilA a3).bind fun a4 =>
 (offA a4 3).bind fun a5 =>
 (loadA false 1 a5 H1).bind fun a6 =>
 (binA .eql tI cT true a6 (.int .i64 2)).bind fun a7 =>
 condK a7
 (endB false false n (.tup []) H1 (E1 ++ []))
 ((offA a1 1).bind fun a8 =>
 (loadA false 1 a8 H1).bind fun a9 =>
 callK (EV C) false n_raft_stepper_follows [x0, a9] H1 fun a10 H10 E10 =>
 (offA a1 4).bind fun a11 =>
 (loadA false 1 a11 H10).bind fun a12 =>
 (offA a1 8).bind fun a13 =>
 (loadA false 1 a13 H10).bind fun a14 =>
 (nilA a3).bind fun a15 =>
 (offA a15 5).bind fun a16 =>
 (offA a16 0).bind fun a17 =>
 (offA a17 0).bind fun a18 =>
 (loadA false 1 a18 H10).bind fun a19 =>
 (binA .lss tI cT false a12 a19).bind fun a20 =>
 condK a20
 ((binA .sub tI cT false a19 a12).bind fun a21 =>
 (lenV a14 H10).bind fun a22 =>
 (minA [a21, a22]).bind fun a23 =>
 (cutA 3 a14 (some a23) none none H10).bind fun a24 =>
 raft_stepper_app_S11 n x0 a1 a3 a19 a24 H10 (E10 ++ (E1 ++ [])))
 ((nilA a3).bind fun a25 =>
 (offA a25 5).bind fun a26 =>
 (loadA true 4 a26 H10).bind fun a27 =>
 callK (EV C) false n_log_Term [a27, a12] H10 fun a28 H28 E28 =>
 (extA a28 0).bind fun a29 =>
 (extA a28 1).bind fun a30 =>
 (binA .neq (Go.TypeDesc.interface #[("Error", 121)]) cT true a30 .nili).bind fun a31 =>
 splitK a31
 ((offA a1 1).bind fun a32 =>
 (loadA false 1 a32 H28).bind fun a33 =>
 (binA .sub tI cT true a12 (.int .i64 1)).bind fun a34 =>
 callK (EV C) false n_raft_stepper_last [x0] H28 fun a35 H35 E35 =>
 drawK (((loadA false 1 a32 H35).bind fun a36 =>
 some a36) = some a33)
 ((minA [a34, a35]).bind fun a37 =>
 (maxA [a37, z0]).bind fun a38 =>
 (fillB (AV.cells (.agg [z0, z0, z0, z0, z0, z0, z0, (.bool false), .nils, .nils, z0, .nils, z0, .nils, .nils, .nils, .nils])) [(0, 1, (.int .i64 4)), (4, 1, a38)]).bind fun c39 =>
 callK (EV C) false n_raft_stepper_send [x0, a33, (.agg c39)] H35 fun a40 H40 E40 =>
 endB false false n (.tup []) H40 (E40 ++ (E35 ++ (E28 ++ (E10 ++ (E1 ++ [])))))))
 ((offA a1 5).bind fun a41 =>
 (loadA false 1 a41 H28).bind fun a42 =>
 (binA .neq tI cT false a29 a42).bind fun a43 =>
 condK a43
 ((offA a1 1).bind fun a44 =>
 (loadA false 1 a44 H28).bind fun a45 =>
 (binA .sub tI cT true a12 (.int .i64 1)).bind fun a46 =>
 callK (EV C) false n_raft_stepper_last [x0] H28 fun a47 H47 E47 =>
 drawK (((loadA false 1 a44 H47).bind fun a48 =>
 some a48) = some a45)
 ((minA [a46, a47]).bind fun a49 =>
 (maxA [a49, z0]).bind fun a50 =>
 (fillB (AV.cells (.agg [z0, z0, z0, z0, z0, z0, z0, (.bool false), .nils, .nils, z0, .nils, z0, .nils, .nils, .nils, .nils])) [(0, 1, (.int .i64 4)), (4, 1, a50)]).bind fun c51 =>
 callK (EV C) false n_raft_stepper_send [x0, a45, (.agg c51)] H47 fun a52 H52 E52 =>
 endB false false n (.tup []) H52 (E52 ++ (E47 ++ (E28 ++ (E10 ++ (E1 ++ [])))))))
 (raft_stepper_app_S11 n x0 a1 a3 a12 a14 H28 (E28 ++ (E10 ++ (E1 ++ []))))))))) (List.length H) = some r) : EV C n_raft_stepper_app [x0, x1] H = some r :=
 EV_of_fnK' (fn := Tryz.f55) (by kernel_rfl) (by kernel_rfl) (by kernel_rfl) hh
noncomputable def raft_stepper_snap_S13 (n : Nat) (t0 t3 t4 t6 : AV) (H : List AObj) (E : List Nat) : Option R3 :=
 runK Tryz.prog C.G (EV C) (C.hint 56) Tryz.f56 (cAt (bodyOf Tryz.f56) [1, 1, 1, 1, 1, 1, 1, 1]) ⟨pat 121 [(0, t0), (3, t3), (4, t4), (6, t6)], H, E⟩
 (kAt Tryz.prog C.G (EV C) (C.hint 56) Tryz.f56 (bodyOf Tryz.f56) [1, 1, 1, 1, 1, 1, 1, 1] [] (endK Tryz.prog (C.hint 56) Tryz.f56 n))
theorem raft_stepper_snap_S13_of {t0 t3 t4 t6 : AV} (hh : (
 (loadA true 4 t6 H).bind fun a1 =>
 callK (EV C) false n_log_Check [a1] H fun a2 H2 E2 =>
 (binA .neq (Go.TypeDesc.interface #[("Error", 121)]) cT true a2 .nili).bind fun a3 =>
 condK a3
 (endB false false n (.tup []) H2 (E2 ++ E))
 ((loadA true 4 t6 H2).bind fun a4 =>
 (offA t3 4).bind fun a5 =>
 (loadA false 1 a5 H2).bind fun a6 =>
 (nilA t4).bind fun a7 =>
 (offA a7 5).bind fun a8 =>
 stoK 4 a8 a4 H2 fun H9 E9 =>
 drawK (((loadA false 1 a5 H9).bind fun a10 =>
 some a10) = some a6)
 ((nilA t4).bind fun a11 =>
 (offA a11 9).bind fun a12 =>
 stoK 1 a12 a6 H9 fun H13 E13 =>
 (offA t3 1).bind fun a14 =>
 (loadA false 1 a14 H13).bind fun a15 =>
 (offA t3 4).bind fun a16 =>
 (loadA false 1 a16 H13).bind fun a17 =>
 (fillB (AV.cells (.agg [z0, z0, z0, z0, z0, z0, z0, (.bool false), .nils, .nils, z0, .nils, z0, .nils, .nils, .nils, .nils])) [(0, 1, (.int .i64 4)), (7, 1, (.bool true)), (4, 1, a17)]).bind fun c18 =>
 callK (EV C) false n_raft_stepper_send [t0, a15, (.agg c18)] H13 fun a19 H19 E19 =>
 (offA t3 4).bind fun a20 =>
 (loadA false 1 a20 H19).bind fun a21 =>
 (nilA t0).bind fun a22 =>
 (offA a22 30).bind fun a23 =>
 stoK 1 a23 a21 H19 fun H24 E24 =>
 endB false false n (.tup []) H24 (E24 ++ (E19 ++ (E13 ++ (E9 ++ (E2 ++ E)))))))) = some r) : raft_stepper_snap_S13 n t0 t3 t4 t6 H E = some r :=
 Eq.trans (by kernel_rfl) hh
theorem raft_stepper_snap_of {x0 x1 : AV} (hh : (fun n => (
 newK x1 H fun a1 H1 E1 =>
 (nilA x0).bind fun a2 =>
 (offA a2 0).bind fun a3 =>
 (nilA a3).bind fun a4 =>
 (offA a4 3).bind fun a5 =>
 (loadA false 1 a5 H1).bind fun a6 =>
 (binA .eql tI cT true a6 (.int .i64 2)).bind fun a7 =>
 splitK a7
 (endB false false n (.tup []) H1 (E1 ++ []))
 ((offA a1 9).bind fun a8 =>
 (loadA false 1 a8 H1).bind fun a9 =>
 (callD (EV C) n_conf_May [a9] H1).bind fun a10 =>
 (unA .not a10).bind fun a11 =>
 splitK a11
 (endB false false n (.tup []) H1 (E1 ++ []))
 ((offA a1 5).bind fun a12 =>
 (loadA false 1 a12 H1).bind fun a13 =>
 (nilA a3).bind fun a14 =>
 (offA a14 1).bind fun a15 =>
 (loadA false 1 a15 H1).bind fun a16 =>
 (binA .gtr tI cT false a13 a16).bind fun a17 =>
 condK a17
 (endB false false n (.tup []) H1 (E1 ++ []))
 ((offA a1 1).bind fun a18 =>
 (loadA false 1 a18 H1).bind fun a19 =>
 callK (EV C) false n_raft_stepper_follows [x0, a19] H1 fun a20 H20 E20 =>
 (offA a1 4).bind fun a21 =>
 (loadA false 1 a21 H20).bind fun a22 =>
 (nilA a3).bind fun a23 =>
 (offA a23 9).bind fun a24 =>
 (loadA false 1 a24 H20).bind fun a25 =>
 (binA .leq tI cT false a22 a25).bind fun a26 =>
 condK a26
 ((offA a1 1).bind fun a27 =>
 (loadA false 1 a27 H20).bind fun a28 =>
 (nilA a3).bind fun a29 =>
 (offA a29 9).bind fun a30 =>
 (loadA false 1 a30 H20).bind fun a31 =>
 (fillB (AV.cells (.agg [z0, z0, z0, z0, z0, z0, z0, (.bool false), .nils, .nils, z0, .nils, z0, .nils, .nils, .nils, .nils])) [(0, 1, (.int .i64 4)), (7, 1, (.bool true)), (4, 1, a31)]).bind fun c32 =>
 callK (EV C) false n_raft_stepper_send [x0, a28, (.agg c32)] H20 fun a33 H33 E33 =>
 endB false false n (.tup []) H33 (E33 ++ (E20 ++ (E1 ++ []))))
 ((offA a1 4).bind fun a34 =>
 (loadA false 1 a34 H20).bind fun a35 =>
 (offA a1 5).bind fun a36 =>
 (loadA false 1 a36 H20).bind fun a37 =>
 (offA a1 9).bind fun a38 =>
 (loadA false 1 a38 H20).bind fun a39 =>
 (callD (EV C) n_Clone_int [a39] H20).bind fun a40 =>
 (fillB (AV.cells (.agg [z0, z0, .nils])) [(0, 1, a35), (1, 1, a37), (2, 1, a40)]).bind fun c41 =>
 newK (.agg [z0, z0, .nils]) H20 fun a42 H42 E42 =>
 drawK (((loadA false 1 a34 H42).bind fun a43 =>
 some a43) = some a35)
 (drawK (((loadA false 1 a36 H42).bind fun a44 =>
 some a44) = some a37)
 (drawK (((loadA false 1 a38 H42).bind fun a45 =>
 some a45) = some a39)
 (drawK (((callD (EV C) n_Clone_int [a39] H42).bind fun a46 =>
 some a46) = some a40)
 (stoK 3 a42 (.agg c41) H42 fun H47 E47 =>
 (loadA true 3 a42 H47).bind fun a48 =>
 (fillB (AV.cells (.agg [z0, z0, .nils, .nils])) [(0, 3, a48)]).bind fun c49 =>
 newK (.agg [z0, z0, .nils, .nils]) H47 fun a50 H50 E50 =>
 stoK 4 a50 (.agg c49) H50 fun H51 E51 =>
 (nilA a3).bind fun a52 =>
 (offA a52 5).bind fun a53 =>
 (loadA true 4 a53 H51).bind fun a54 =>
 (offA a1 4).bind fun a55 =>
 (loadA false 1 a55 H51).bind fun a56 =>
 (callD (EV C) n_log_Term [a54, a56] H51).bind fun a57 =>
 (extA a57 0).bind fun a58 =>
 (extA a57 1).bind fun a59 =>
 (binA .eql (Go.TypeDesc.interface #[("Error", 121)]) cT true a59 .nili).bind fun a60 =>
 splitK a60
 ((offA a1 5).bind fun a61 =>
 (loadA false 1 a61 H51).bind fun a62 =>
 (binA .eql tI cT false a58 a62).bind fun a63 =>
 condK a63
 ((nilA a3).bind fun a64 =>
 (offA a64 5).bind fun a65 =>
 (loadA true 4 a65 H51).bind fun a66 =>
 (offA a1 4).bind fun a67 =>
 (loadA false 1 a67 H51).bind fun a68 =>
 (callD (EV C) n_log_Compact [a66, a68] H51).bind fun a69 =>
 (extA a69 0).bind fun a70 =>
 (extA a69 1).bind fun a71 =>
 newK (.agg [z0, z0, .nils, .nils]) H51 fun a72 H72 E72 =>
 drawK (((loadA true 4 a65 H72).bind fun a73 =>
 some a73) = some a66)
 (drawK (((loadA false 1 a67 H72).bind fun a74 =>
 some a74) = some a68)
 (drawK (((callD (EV C) n_log_Compact [a66, a68] H72).bind fun a75 =>
 some a75) = some a69)
 (stoK 4 a72 a70 H72 fun H76 E76 =>
 (binA .eql (Go.TypeDesc.interface #[("Error", 121)]) cT true a71 .nili).bind fun a77 =>
 condK a77
 ((offA a72 3).bind fun a78 =>
 (loadA false 1 a78 H76).bind fun a79 =>
 (offA a50 3).bind fun a80 =>
 stoK 1 a80 a79 H76 fun H81 E81 =>
 raft_stepper_snap_S13 n x0 a1 a3 a50 H81 (E81 ++ (E76 ++ (E72 ++ (E51 ++ (E50 ++ (E47 ++ (E42 ++ (E20 ++ (E1 ++ []))))))))))
 (raft_stepper_snap_S13 n x0 a1 a3 a50 H76 (E76 ++ (E72 ++ (E51 ++ (E50 ++ (E47 ++ (E42 ++ (E20 ++ (E1 ++ [])))))))))))))
 (raft_stepper_snap_S13 n x0 a1 a3 a50 H51 (E51 ++ (E50 ++ (E47 ++ (E42 ++ (E20 ++ (E1 ++ []))))))))
 (raft_stepper_snap_S13 n x0 a1 a3 a50 H51 (E51 ++ (E50 ++ (E47 ++ (E42 ++ (E20 ++ (E1 ++ []))))))))))))))))) (List.length H) = some r) : EV C n_raft_stepper_snap [x0, x1] H = some r :=
 EV_of_fnK' (fn := Tryz.f56) (by kernel_rfl) (by kernel_rfl) (by kernel_rfl) hh
theorem raft_stepper_ack_of {x0 x1 : AV} (hh : (fun n => (
 newK x1 H fun a1 H1 E1 =>
 (nilA x0).bind fun a2 =>
 (offA a2 0).bind fun a3 =>
 (offA a1 7).bind fun a4 =>
 (loadA false 1 a4 H1).bind fun a5 =>
 (unA .not a5).bind fun a6 =>
 condK a6
 ((offA a1 1).bind fun a7 =>
 (loadA false 1 a7 H1).bind fun a8 =>
 (offA a1 4).bind fun a9 =>
 (loadA false 1 a9 H1).bind fun a10 =>
 (binA .add tI cT true a10 (.int .i64 1)).bind fun a11 =>
 (offA a1 1).bind fun a12 =>
 (loadA false 1 a12 H1).bind fun a13 =>
 (nilA a3).bind fun a14 =>
 (offA a14 11).bind fun a15 =>
 (arA 8 1 a15 a13).bind fun a16 =>
 (loadA false 1 a16 H1).bind fun a17 =>
 (binA .sub tI cT true a17 (.int .i64 1)).bind fun a18 =>
 (minA [a11, a18]).bind fun a19 =>
 (offA a1 1).bind fun a20 =>
 (loadA false 1 a20 H1).bind fun a21 =>
 (nilA a3).bind fun a22 =>
 (offA a22 19).bind fun a23 =>
 (arA 8 1 a23 a21).bind fun a24 =>
 (loadA false 1 a24 H1).bind fun a25 =>
 (binA .add tI cT true a25 (.int .i64 1)).bind fun a26 =>
 (maxA [a19, a26]).bind fun a27 =>
 (minA [a27, (.int .i64 1152921504606846976)]).bind fun a28 =>
 (nilA a3).bind fun a29 =>
 (offA a29 11).bind fun a30 =>
 (arA 8 1 a30 a8).bind fun a31 =>
 stoK 1 a31 a28 H1 fun H32 E32 =>
 (offA a1 1).bind fun a33 =>
 (loadA false 1 a33 H32).bind fun a34 =>
 callK (EV C) false n_raft_stepper_bring [x0, a34] H32 fun a35 H35 E35 =>
 endB false false n (.tup []) H35 (E35 ++ (E32 ++ (E1 ++ []))))
 ((offA a1 4).bind fun a36 =>
 (loadA false 1 a36 H1).bind fun a37 =>
 callK (EV C) false n_raft_stepper_last [x0] H1 fun a38 H38 E38 =>
 drawK (((loadA false 1 a36 H38).bind fun a39 =>
 some a39) = some a37)
 ((binA .gtr tI cT false a37 a38).bind fun a40 =>
 condK a40
 (endB false false n (.tup []) H38 (E38 ++ (E1 ++ [])))
 ((offA a1 1).bind fun a41 =>
 (loadA false 1 a41 H38).bind fun a42 =>
 (offA a1 1).bind fun a43 =>
 (loadA false 1 a43 H38).bind fun a44 =>
 (nilA a3).bind fun a45 =>
 (offA a45 19).bind fun a46 =>
 (arA 8 1 a46 a44).bind fun a47 =>
 (loadA false 1 a47 H38).bind fun a48 =>
 (offA a1 4).bind fun a49 =>
 (loadA false 1 a49 H38).bind fun a50 =>
 (maxA [a48, a50]).bind fun a51 =>
 (nilA a3).bind fun a52 =>
 (offA a52 19).bind fun a53 =>
 (arA 8 1 a53 a42).bind fun a54 =>
 stoK 1 a54 a51 H38 fun H55 E55 =>
 (offA a1 1).bind fun a56 =>
 (loadA false 1 a56 H55).bind fun a57 =>
 (offA a1 1).bind fun a58 =>
 (loadA false 1 a58 H55).bind fun a59 =>
 (nilA a3).bind fun a60 =>
 (offA a60 19).bind fun a61 =>
 (arA 8 1 a61 a59).bind fun a62 =>
 (loadA false 1 a62 H55).bind fun a63 =>
 (binA .add tI cT true a63 (.int .i64 1)).bind fun a64 =>
 (minA [a64, (.int .i64 1152921504606846976)]).bind fun a65 =>
 (nilA a3).bind fun a66 =>
 (offA a66 11).bind fun a67 =>
 (arA 8 1 a67 a57).bind fun a68 =>
 stoK 1 a68 a65 H55 fun H69 E69 =>
 callK (EV C) false n_raft_stepper_counts [x0] H69 fun a70 H70 E70 =>
 (nilA a3).bind fun a71 =>
 (offA a71 3).bind fun a72 =>
 (loadA false 1 a72 H70).bind fun a73 =>
 (binA .eql tI cT true a73 (.int .i64 2)).bind fun a74 =>
 splitK a74
 ((offA a1 1).bind fun a75 =>
 (loadA false 1 a75 H70).bind fun a76 =>
 (nilA a3).bind fun a77 =>
 (offA a77 11).bind fun a78 =>
 (arA 8 1 a78 a76).bind fun a79 =>
 (loadA false 1 a79 H70).bind fun a80 =>
 callK (EV C) false n_raft_stepper_last [x0] H70 fun a81 H81 E81 =>
 drawK (((loadA false 1 a75 H81).bind fun a82 =>
 some a82) = some a76)
 (drawK (((arA 8 1 a78 a76).bind fun a83 =>
 some a83) = some a79)
 (drawK (((loadA false 1 a79 H81).bind fun a84 =>
 some a84) = some a80)
 ((binA .leq tI cT false a80 a81).bind fun a85 =>
 condK a85
 ((offA a1 1).bind fun a86 =>
 (loadA false 1 a86 H81).bind fun a87 =>
 callK (EV C) false n_raft_stepper_bring [x0, a87] H81 fun a88 H88 E88 =>
 endB false false n (.tup []) H88 (E88 ++ (E81 ++ (E70 ++ (E69 ++ (E55 ++ (E38 ++ (E1 ++ []))))))))
 (endB false false n (.tup []) H81 (E81 ++ (E70 ++ (E69 ++ (E55 ++ (E38 ++ (E1 ++ [])))))))))))
 (endB false false n (.tup []) H70 (E70 ++ (E69 ++ (E55 ++ (E38 ++ (E1 ++ []))))))))))) (List.length H) = some r) : EV C n_raft_stepper_ack [x0, x1] H = some r :=
 EV_of_fnK' (fn := Tryz.f57) (by kernel_rfl) (by kernel_rfl) (by kernel_rfl) hh
end Go.Pm
