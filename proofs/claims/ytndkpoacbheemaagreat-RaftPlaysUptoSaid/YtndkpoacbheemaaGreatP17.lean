/- A part of the proof: what the functions of the program answer, as plain lists and numbers. -/
import Derived.Test.YtndkpoacbheemaaGreatP8
namespace Go.Pm
set_option linter.unusedVariables false
open Go.Proofs
variable {r : R3} {n : Nat} {H : List AObj} {E : List Nat}
set_option linter.unusedVariables false
set_option maxRecDepth 100000
theorem raft_stepper_app_1_of {x0 x1 : AV} (hh : (fun n => (
 newK x0 H fun a1 H1 E1 =>
 (offA a1 0).bind fun a2 =>
 (loadA false 1 a2 H1).bind fun a3 =>
 (offA x1 3).bind fun a4 =>
 (loadA false 1 a4 H1).bind fun a5 =>
 (binA .gtr tI cT false a3 a5).bind fun a6 =>
 endB false false n a6 H1 (E1 ++ []))) (List.length H) = some r) : EV C n_raft_stepper_app_1 [x0, x1] H = some r :=
 EV_of_fnK' (fn := Tryz.f91) (by kernel_rfl) (by kernel_rfl) (by kernel_rfl) hh
theorem Clone_byte_of {x0 : AV} (hh : (fun n => (
 (binA .eql (Go.TypeDesc.slice 5) cT true x0 .nils).bind fun a1 =>
 condK a1
 (endB false false n .nils H [])
 ((appD 1 1 (AV.emp none) x0 H).bind fun a2 =>
 endB false false n a2 H []))) (List.length H) = some r) : EV C0 n_Clone_byte [x0] H = some r :=
 EV_of_fnK' (fn := Tryz.f92) (by kernel_rfl) (by kernel_rfl) (by kernel_rfl) hh
theorem ContainsFunc_int_of {x0 x1 : AV} (hh : (fun n => (
 callK (EV C) false n_IndexFunc_int [x0, x1] H fun a1 H1 E1 =>
 (binA .geq tI cT true a1 z0).bind fun a2 =>
 endB false false n a2 H1 (E1 ++ []))) (List.length H) = some r) : EV C n_ContainsFunc_int [x0, x1] H = some r :=
 EV_of_fnK' (fn := Tryz.f93) (by kernel_rfl) (by kernel_rfl) (by kernel_rfl) hh
theorem conf_Step_1_of {x0 x1 : AV} (hh : (fun n => (
 (loadA false 1 x1 H).bind fun a1 =>
 callK (EV C) false n_conf_Has [a1, x0] H fun a2 H2 E2 =>
 (unA .not a2).bind fun a3 =>
 endB false false n a3 H2 (E2 ++ []))) (List.length H) = some r) : EV C n_conf_Step_1 [x0, x1] H = some r :=
 EV_of_fnK' (fn := Tryz.f94) (by kernel_rfl) (by kernel_rfl) (by kernel_rfl) hh
theorem raft_stepper_pending_1_of {x0 : AV} (hh : (fun n => (
 newK x0 H fun a1 H1 E1 =>
 (offA a1 1).bind fun a2 =>
 (loadA false 1 a2 H1).bind fun a3 =>
 (binA .eql tI cT true a3 (.int .i64 2)).bind fun a4 =>
 endB false false n a4 H1 (E1 ++ []))) (List.length H) = some r) : EV C n_raft_stepper_pending_1 [x0] H = some r :=
 EV_of_fnK' (fn := Tryz.f95) (by kernel_rfl) (by kernel_rfl) (by kernel_rfl) hh
theorem log_has_of {x0 x1 : AV} (hh : (fun n => (
 newK x0 H fun a1 H1 E1 =>
 (offA a1 0).bind fun a2 =>
 (offA a2 0).bind fun a3 =>
 (loadA false 1 a3 H1).bind fun a4 =>
 (binA .geq tI cT false x1 a4).bind fun a5 =>
 splitK a5
 ((loadA true 4 a1 H1).bind fun a6 =>
 callK (EV C) false n_log_last [a6] H1 fun a7 H7 E7 =>
 (binA .leq tI cT false x1 a7).bind fun a8 =>
 endB false false n a8 H7 (E7 ++ (E1 ++ [])))
 (endB false false n (.bool false) H1 (E1 ++ [])))) (List.length H) = some r) : EV C n_log_has [x0, x1] H = some r :=
 EV_of_fnK' (fn := Tryz.f96) (by kernel_rfl) (by kernel_rfl) (by kernel_rfl) hh
noncomputable def conf_Of_J3 (n : Nat) (t4 t7 t8 t9 : AV) (H : List AObj) (E : List Nat) : Option R3 :=
 lK 97 Tryz.f97 [1, 1, 0, 1, 0] n
 ⟨pat 24 [(4, t4), (7, t7), (8, t8), (9, t9)], H, E⟩
theorem conf_Of_J3_of {t4 t7 t8 t9 : AV} (hh : (
 (binA .lss tI cT false t9 t8).bind fun a1 =>
 condK a1
 ((ixA 1 t7 t9 H).bind fun a2 =>
 (loadA false 1 a2 H).bind fun a3 =>
 (cvI .i64 a3).bind fun a4 =>
 litK 1 1 z0 [(0, a4)] H fun a5 H5 E5 =>
 appK 1 8 t4 a5 H5 fun a6 H6 E6 =>
 (binA .add tI cT true t9 (.int .i64 1)).bind fun a7 =>
 conf_Of_J3 n a6 t7 t8 a7 H6 ((E6 ++ (E5 ++ [])) ++ E))
 (callK (EV C) false n_conf_May [t4] H fun a8 H8 E8 =>
 (unA .not a8).bind fun a9 =>
 condK a9
 (endB false false n (.tup [.nils, (.ifc t_api_Code (.int .i64 3))]) H8 (E8 ++ E))
 (endB false false n (.tup [t4, .nili]) H8 (E8 ++ E)))) = some r) : conf_Of_J3 n t4 t7 t8 t9 H E = some r :=
 loop_step' (by kernel_rfl) hh
theorem conf_Of_of {x0 : AV} (hh : (fun n => (
 (lenV x0 (H ++ [.vrow])).bind fun a1 =>
 conf_Of_J3 n (.slc (List.length H) 0 0 0) x0 a1 z0 (H ++ [.vrow]) [])) (List.length H) = some r) : EV C n_conf_Of [x0] H = some r :=
 EV_of_fnK' (fn := Tryz.f97) (by kernel_rfl) (by kernel_rfl) (by kernel_rfl) hh
noncomputable def ref17_Most_J4 (n : Nat) (t0 t1 t5 t6 t7 : AV) (H : List AObj) (E : List Nat) : Option R3 :=
 lK 98 Tryz.f98 [1, 1, 1, 0, 1, 0] n
 ⟨pat 34 [(0, t0), (1, t1), (5, t5), (6, t6), (7, t7)], H, E⟩
theorem ref17_Most_J4_of {t0 t1 t5 t6 t7 : AV} (hh : (
 (lenV t0 H).bind fun a1 =>
 (binA .lss tI cT false t7 a1).bind fun a2 =>
 condK a2
 ((ixA 1 t0 t7 H).bind fun a3 =>
 (loadA false 1 a3 H).bind fun a4 =>
 callK (EV C) false n_ref17_Has [t1, a4] H fun a5 H5 E5 =>
 condK a5
 ((binA .add tI cT true t6 (.int .i64 1)).bind fun a6 =>
 (binA .add tI cT true t7 (.int .i64 1)).bind fun a7 =>
 ref17_Most_J4 n t0 t1 t5 a6 a7 H5 ((E5 ++ []) ++ E))
 ((binA .add tI cT true t7 (.int .i64 1)).bind fun a8 =>
 ref17_Most_J4 n t0 t1 t5 t6 a8 H5 ((E5 ++ []) ++ E)))
 (splitK t5
 ((lenV t0 H).bind fun a9 =>
 (binA .quo tI cT true a9 (.int .i64 2)).bind fun a10 =>
 (binA .gtr tI cT false t6 a10).bind fun a11 =>
 endB false false n a11 H E)
 (endB false false n (.bool false) H E))) = some r) : ref17_Most_J4 n t0 t1 t5 t6 t7 H E = some r :=
 loop_step' (by kernel_rfl) hh
theorem ref17_Most_of {x0 x1 : AV} (hh : (fun n => (
 callK (EV C) false n_ref17_May [x0] H fun a1 H1 E1 =>
 ref17_Most_J4 n x0 x1 a1 z0 z0 H1 (E1 ++ []))) (List.length H) = some r) : EV C n_ref17_Most [x0, x1] H = some r :=
 EV_of_fnK' (fn := Tryz.f98) (by kernel_rfl) (by kernel_rfl) (by kernel_rfl) hh
theorem ref19_Run_follow_of {x0 x1 : AV} (hh : (fun n => (
 (nilA x0).bind fun a1 =>
 (offA a1 0).bind fun a2 =>
 (offA a2 3).bind fun a3 =>
 stoK 1 a3 z0 H fun H4 E4 =>
 (nilA x0).bind fun a5 =>
 (offA a5 0).bind fun a6 =>
 (offA a6 4).bind fun a7 =>
 stoK 1 a7 x1 H4 fun H8 E8 =>
 (nilA x0).bind fun a9 =>
 (offA a9 0).bind fun a10 =>
 (offA a10 10).bind fun a11 =>
 stoK 1 a11 .nils H8 fun H12 E12 =>
 (nilA x0).bind fun a13 =>
 (offA a13 0).bind fun a14 =>
 (offA a14 27).bind fun a15 =>
 stoK 1 a15 z0 H12 fun H16 E16 =>
 endB false false n (.tup []) H16 (E16 ++ (E12 ++ (E8 ++ (E4 ++ [])))))) (List.length H) = some r) : EV C n_ref19_Run_follow [x0, x1] H = some r :=
 EV_of_fnK' (fn := Tryz.f99) (by kernel_rfl) (by kernel_rfl) (by kernel_rfl) hh
noncomputable def ref18_Merge_J6 (n : Nat) (t2 t3 t6 t10 t11 : AV) (H : List AObj) (E : List Nat) : Option R3 :=
 lK 100 Tryz.f100 [1, 1, 1, 1, 1, 0, 0] n
 ⟨pat 92 [(2, t2), (3, t3), (6, t6), (10, t10), (11, t11)], H, E⟩
noncomputable def ref18_Merge_S9 (n : Nat) (t2 t3 t6 t10 t11 : AV) (H : List AObj) (E : List Nat) : Option R3 :=
 runK Tryz.prog C.G (EV C) (C.hint 100) Tryz.f100 (cAt (bodyOf Tryz.f100) [1, 1, 1, 1, 1, 1]) ⟨pat 92 [(2, t2), (3, t3), (6, t6), (10, t10), (11, t11)], H, E⟩
 (kAt Tryz.prog C.G (EV C) (C.hint 100) Tryz.f100 (bodyOf Tryz.f100) [1, 1, 1, 1, 1, 1] [] (endK Tryz.prog (C.hint 100) Tryz.f100 n))
theorem ref18_Merge_J6_of {t2 t3 t6 t10 t11 : AV} (hh : (
 (lenV t2 H).bind fun a1 =>
 (binA .lss tI cT false t11 a1).bind fun a2 =>
 splitK a2
 ((offA t3 3).bind fun a3 =>
 (loadA false 1 a3 H).bind fun a4 =>
 (lenV a4 H).bind fun a5 =>
 (binA .lss tI cT false t10 a5).bind fun a6 =>
 splitK a6
 ((offA t3 3).bind fun a7 =>
 (loadA false 1 a7 H).bind fun a8 =>
 (ixA 3 a8 t10 H).bind fun a9 =>
 (offA a9 0).bind fun a10 =>
 (loadA false 1 a10 H).bind fun a11 =>
 (ixA 3 t2 t11 H).bind fun a12 =>
 (offA a12 0).bind fun a13 =>
 (loadA false 1 a13 H).bind fun a14 =>
 (binA .eql tI cT false a11 a14).bind fun a15 =>
 condK a15
 ((binA .add tI cT true t11 (.int .i64 1)).bind fun a16 =>
 (binA .add tI cT true t10 (.int .i64 1)).bind fun a17 =>
 ref18_Merge_J6 n t2 t3 t6 a17 a16 H E)
 (ref18_Merge_S9 n t2 t3 t6 t10 t11 H E))
 (ref18_Merge_S9 n t2 t3 t6 t10 t11 H E))
 (ref18_Merge_S9 n t2 t3 t6 t10 t11 H E)) = some r) : ref18_Merge_J6 n t2 t3 t6 t10 t11 H E = some r :=
 loop_step' (by kernel_rfl) hh
theorem ref18_Merge_S9_of {t2 t3 t6 t10 t11 : AV} (hh : (
 (lenV t2 H).bind fun a1 =>
 (binA .eql tI cT false t11 a1).bind fun a2 =>
 condK a2
 ((loadA true 4 t3 H).bind fun a3 =>
 (loadA true 4 t3 H).bind fun a4 =>
 (callD (EV C) n_ref18_Last [a4] H).bind fun a5 =>
 (binA .add tI cT true a5 (.int .i64 1)).bind fun a6 =>
 stoK 4 t6 a3 H fun H7 E7 =>
 (loadA true 4 t6 H7).bind fun a8 =>
 endB false false n (.tup [a8, a6, z0]) H7 (E7 ++ E))
 ((offA t3 0).bind fun a9 =>
 (loadA true 3 a9 H).bind fun a10 =>
 (fillB (AV.cells (.agg [z0, z0, .nils, .nils])) [(0, 3, a10)]).bind fun c11 =>
 newK (.agg [z0, z0, .nils, .nils]) H fun a12 H12 E12 =>
 stoK 4 a12 (.agg c11) H12 fun H13 E13 =>
 (offA a12 3).bind fun a14 =>
 (loadA false 1 a14 H13).bind fun a15 =>
 (offA t3 3).bind fun a16 =>
 (loadA false 1 a16 H13).bind fun a17 =>
 (cutA 3 a17 none (some t10) none H13).bind fun a18 =>
 appK 3 40 a15 a18 H13 fun a19 H19 E19 =>
 (offA a12 3).bind fun a20 =>
 stoK 1 a20 a19 H19 fun H21 E21 =>
 (offA a12 3).bind fun a22 =>
 (loadA false 1 a22 H21).bind fun a23 =>
 (cutA 3 t2 (some t11) none none H21).bind fun a24 =>
 appK 3 40 a23 a24 H21 fun a25 H25 E25 =>
 (offA a12 3).bind fun a26 =>
 stoK 1 a26 a25 H25 fun H27 E27 =>
 (loadA true 4 a12 H27).bind fun a28 =>
 callK (EV C) false n_ref18_Check [a28] H27 fun a29 H29 E29 =>
 (unA .not a29).bind fun a30 =>
 condK a30
 ((fillB (AV.cells (.agg [z0, z0, .nils, .nils])) []).bind fun c31 =>
 stoK 4 t6 (.agg c31) H29 fun H32 E32 =>
 (loadA true 4 t6 H32).bind fun a33 =>
 endB false false n (.tup [a33, z0, (.int .i64 3)]) H32 (E32 ++ (E29 ++ (E27 ++ (E25 ++ (E21 ++ (E19 ++ (E13 ++ (E12 ++ E)))))))))
 ((loadA true 4 a12 H29).bind fun a34 =>
 (offA t3 0).bind fun a35 =>
 (offA a35 0).bind fun a36 =>
 (loadA false 1 a36 H29).bind fun a37 =>
 (binA .add tI cT false a37 t10).bind fun a38 =>
 (binA .add tI cT true a38 (.int .i64 1)).bind fun a39 =>
 stoK 4 t6 a34 H29 fun H40 E40 =>
 drawK (((loadA false 1 a36 H40).bind fun a41 =>
 some a41) = some a37)
 ((loadA true 4 t6 H40).bind fun a42 =>
 endB false false n (.tup [a42, a39, z0]) H40 (E40 ++ (E29 ++ (E27 ++ (E25 ++ (E21 ++ (E19 ++ (E13 ++ (E12 ++ E)))))))))))) = some r) : ref18_Merge_S9 n t2 t3 t6 t10 t11 H E = some r :=
 Eq.trans (by kernel_rfl) hh
theorem ref18_Merge_of {x0 x1 x2 : AV} (hh : (fun n => (
 newK x0 H fun a1 H1 E1 =>
 newK (.agg [z0, z0, .nils, .nils]) H1 fun a2 H2 E2 =>
 (loadA true 4 a1 H2).bind fun a3 =>
 callK (EV C) false n_ref18_Has [a3, x1] H2 fun a4 H4 E4 =>
 (unA .not a4).bind fun a5 =>
 condK a5
 ((fillB (AV.cells (.agg [z0, z0, .nils, .nils])) []).bind fun c6 =>
 stoK 4 a2 (.agg c6) H4 fun H7 E7 =>
 (loadA true 4 a2 H7).bind fun a8 =>
 endB false false n (.tup [a8, z0, (.int .i64 9)]) H7 (E7 ++ (E4 ++ (E2 ++ (E1 ++ [])))))
 ((offA a1 0).bind fun a9 =>
 (offA a9 0).bind fun a10 =>
 (loadA false 1 a10 H4).bind fun a11 =>
 (binA .sub tI cT false x1 a11).bind fun a12 =>
 ref18_Merge_J6 n x2 a1 a2 a12 z0 H4 (E4 ++ (E2 ++ (E1 ++ [])))))) (List.length H) = some r) : EV C n_ref18_Merge [x0, x1, x2] H = some r :=
 EV_of_fnK' (fn := Tryz.f100) (by kernel_rfl) (by kernel_rfl) (by kernel_rfl) hh
theorem ref18_Has_of {x0 x1 : AV} (hh : (fun n => (
 newK x0 H fun a1 H1 E1 =>
 (offA a1 0).bind fun a2 =>
 (offA a2 0).bind fun a3 =>
 (loadA false 1 a3 H1).bind fun a4 =>
 (binA .leq tI cT false a4 x1).bind fun a5 =>
 splitK a5
 ((loadA true 4 a1 H1).bind fun a6 =>
 callK (EV C) false n_ref18_Last [a6] H1 fun a7 H7 E7 =>
 (binA .leq tI cT false x1 a7).bind fun a8 =>
 endB false false n a8 H7 (E7 ++ (E1 ++ [])))
 (endB false false n (.bool false) H1 (E1 ++ [])))) (List.length H) = some r) : EV C n_ref18_Has [x0, x1] H = some r :=
 EV_of_fnK' (fn := Tryz.f101) (by kernel_rfl) (by kernel_rfl) (by kernel_rfl) hh
end Go.Pm
