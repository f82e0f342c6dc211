/- A part of the proof: what the functions of the program answer, as plain lists and numbers. -/
import Derived.Test.YtndkpoacbheemaaGreatP8
namespace Go.Pm
set_option linter.unusedVariables false
open Go.Proofs
variable {r : R3} {n : Nat} {H : List AObj} {E : List Nat}
set_option linter.unusedVariables false
set_option maxRecDepth 100000
theorem raft_stepper_add_of {x0 x1 x2 : AV} (hh : (fun n => (
 callK (EV C) false n_raft_stepper_last [x0] H fun a1 H1 E1 =>
 (binA .geq tI cT true a1 (.int .i64 1152921504606846976)).bind fun a2 =>
 condK a2
 (endB false false n (.tup []) H1 (E1 ++ []))
 ((nilA x0).bind fun a3 =>
 (offA a3 0).bind fun a4 =>
 (offA a4 5).bind fun a5 =>
 (offA a5 3).bind fun a6 =>
 (loadA false 1 a6 H1).bind fun a7 =>
 callK (EV C) true n_Clone_api_Entry_r [a7] H1 fun a8 H8 E8 =>
 (nilA x0).bind fun a9 =>
 (offA a9 0).bind fun a10 =>
 (offA a10 1).bind fun a11 =>
 (loadA false 1 a11 H8).bind fun a12 =>
 drawK (((loadA false 1 a11 H1).bind fun a13 =>
 some a13) = some a12)
 ((callD (EV C) n_Clone_byte [x2] H8).bind fun a14 =>
 (fillB (AV.cells (.agg [z0, z0, .nils])) [(0, 1, a12), (1, 1, x1), (2, 1, a14)]).bind fun c15 =>
 (litD 3 1 (.agg [z0, z0, .nils]) [(0, (.agg c15))] H8).bind fun a16 =>
 appK 3 40 a8 a16 H8 fun a17 H17 E17 =>
 frzK a17 H17 fun a18 H18 =>
 (nilA x0).bind fun a19 =>
 (offA a19 0).bind fun a20 =>
 (offA a20 5).bind fun a21 =>
 (offA a21 3).bind fun a22 =>
 stoK 1 a22 a18 H18 fun H23 E23 =>
 endB false false n (.tup []) H23 (E23 ++ (E17 ++ (E8 ++ (E1 ++ [])))))))) (List.length H) = some r) : EV C n_raft_stepper_add [x0, x1, x2] H = some r :=
 EV_of_fnK' (fn := Tryz.f58) (by kernel_rfl) (by kernel_rfl) (by kernel_rfl) hh
noncomputable def raft_stepper_counts_J4 (n : Nat) (t0 t2 t3 t4 : AV) (H : List AObj) (E : List Nat) : Option R3 :=
 lK 59 Tryz.f59 [1, 1, 1, 0, 1, 0] n
 ⟨pat 95 [(0, t0), (2, t2), (3, t3), (4, t4)], H, E⟩
noncomputable def raft_stepper_counts_J10 (n : Nat) (Ha : List AObj) (Ea : List Nat) (t0 t2 t3 t4 t7 t57 t58 : AV) (H : List AObj) (E : List Nat) : Option R3 :=
 loopK Tryz.prog C.G (EV C) (C.hint 59) Tryz.f59 (cAt (bodyOf Tryz.f59) [1, 1, 1, 0, 1, 0, 0, 1, 0, 0, 1, 1, 1, 0, 1, 0, 0]) (kAt Tryz.prog C.G (EV C) (C.hint 59) Tryz.f59 (bodyOf Tryz.f59) [1, 1, 1, 0, 1, 0, 0, 1, 0, 0, 1, 1, 1, 0, 1, 0] [(Ha, Ea)] (endK Tryz.prog (C.hint 59) Tryz.f59 n))
 ⟨pat 95 [(0, t0), (2, t2), (3, t3), (4, t4), (7, t7), (57, t57), (58, t58)], H, E⟩
theorem raft_stepper_counts_J4_of {t0 t2 t3 t4 : AV} (hh : (
 (nilA t2).bind fun a1 =>
 (offA a1 9).bind fun a2 =>
 (loadA false 1 a2 H).bind fun a3 =>
 (binA .gtr tI cT false t4 a3).bind fun a4 =>
 condK a4
 ((nilA t2).bind fun a5 =>
 (offA a5 5).bind fun a6 =>
 (loadA true 4 a6 H).bind fun a7 =>
 callK (EV C) false n_log_Term [a7, t4] H fun a8 H8 E8 =>
 (extA a8 0).bind fun a9 =>
 (extA a8 1).bind fun a10 =>
 (binA .neq (Go.TypeDesc.interface #[("Error", 121)]) cT true a10 .nili).bind fun a11 =>
 splitK a11
 ((nilA t2).bind fun a12 =>
 (offA a12 0).bind fun a13 =>
 (loadA false 1 a13 H8).bind fun a14 =>
 callK (EV C) false n_conf_Has [t3, a14] H8 fun a15 H15 E15 =>
 (unA .not a15).bind fun a16 =>
 splitK a16
 (callK (EV C) false n_raft_stepper_pending [t0] H15 fun a17 H17 E17 =>
 (unA .not a17).bind fun a18 =>
 condK a18
 ((nilA t2).bind fun a19 =>
 (offA a19 3).bind fun a20 =>
 stoK 1 a20 z0 H17 fun H21 E21 =>
 (nilA t2).bind fun a22 =>
 (offA a22 4).bind fun a23 =>
 stoK 1 a23 z0 H21 fun H24 E24 =>
 endB false false n (.tup []) H24 (E24 ++ (E21 ++ (E17 ++ (E15 ++ ((E8 ++ []) ++ E))))))
 (endB false false n (.tup []) H17 (E17 ++ (E15 ++ ((E8 ++ []) ++ E)))))
 (endB false false n (.tup []) H15 (E15 ++ ((E8 ++ []) ++ E))))
 ((nilA t2).bind fun a25 =>
 (offA a25 1).bind fun a26 =>
 (loadA false 1 a26 H8).bind fun a27 =>
 (binA .neq tI cT false a9 a27).bind fun a28 =>
 condK a28
 ((nilA t2).bind fun a29 =>
 (offA a29 0).bind fun a30 =>
 (loadA false 1 a30 H8).bind fun a31 =>
 callK (EV C) false n_conf_Has [t3, a31] H8 fun a32 H32 E32 =>
 (unA .not a32).bind fun a33 =>
 splitK a33
 (callK (EV C) false n_raft_stepper_pending [t0] H32 fun a34 H34 E34 =>
 (unA .not a34).bind fun a35 =>
 condK a35
 ((nilA t2).bind fun a36 =>
 (offA a36 3).bind fun a37 =>
 stoK 1 a37 z0 H34 fun H38 E38 =>
 (nilA t2).bind fun a39 =>
 (offA a39 4).bind fun a40 =>
 stoK 1 a40 z0 H38 fun H41 E41 =>
 endB false false n (.tup []) H41 (E41 ++ (E38 ++ (E34 ++ (E32 ++ ((E8 ++ []) ++ E))))))
 (endB false false n (.tup []) H34 (E34 ++ (E32 ++ ((E8 ++ []) ++ E)))))
 (endB false false n (.tup []) H32 (E32 ++ ((E8 ++ []) ++ E))))
 ((nilA t2).bind fun a42 =>
 (offA a42 19).bind fun a43 =>
 (loadA true 8 a43 (H8 ++ [.vrow])).bind fun a44 =>
 raft_stepper_counts_J10 n H E t0 t2 t3 t4 (.slc (List.length H8) 0 0 0) a44 z0 (H8 ++ [.vrow]) (E8 ++ []))))
 ((nilA t2).bind fun a45 =>
 (offA a45 0).bind fun a46 =>
 (loadA false 1 a46 H).bind fun a47 =>
 callK (EV C) false n_conf_Has [t3, a47] H fun a48 H48 E48 =>
 (unA .not a48).bind fun a49 =>
 splitK a49
 (callK (EV C) false n_raft_stepper_pending [t0] H48 fun a50 H50 E50 =>
 (unA .not a50).bind fun a51 =>
 condK a51
 ((nilA t2).bind fun a52 =>
 (offA a52 3).bind fun a53 =>
 stoK 1 a53 z0 H50 fun H54 E54 =>
 (nilA t2).bind fun a55 =>
 (offA a55 4).bind fun a56 =>
 stoK 1 a56 z0 H54 fun H57 E57 =>
 endB false false n (.tup []) H57 (E57 ++ (E54 ++ (E50 ++ (E48 ++ E)))))
 (endB false false n (.tup []) H50 (E50 ++ (E48 ++ E))))
 (endB false false n (.tup []) H48 (E48 ++ E)))) = some r) : raft_stepper_counts_J4 n t0 t2 t3 t4 H E = some r :=
 loop_step' (by kernel_rfl) hh
theorem raft_stepper_counts_J10_of {Ha : List AObj} {Ea : List Nat} {t0 t2 t3 t4 t7 t57 t58 : AV} (hh : (
 (binA .lss tI cT true t58 (.int .i64 8)).bind fun a1 =>
 condK a1
 ((ixV 8 false 1 t57 t58).bind fun a2 =>
 (binA .geq tI cT false a2 t4).bind fun a3 =>
 condK a3
 (litK 1 1 z0 [(0, t58)] H fun a4 H4 E4 =>
 appK 1 8 t7 a4 H4 fun a5 H5 E5 =>
 (binA .add tI cT true t58 (.int .i64 1)).bind fun a6 =>
 raft_stepper_counts_J10 n Ha Ea t0 t2 t3 t4 a5 t57 a6 H5 ((E5 ++ (E4 ++ [])) ++ E))
 ((binA .add tI cT true t58 (.int .i64 1)).bind fun a7 =>
 raft_stepper_counts_J10 n Ha Ea t0 t2 t3 t4 t7 t57 a7 H E))
 (callK (EV C) false n_conf_Most [t3, t7] H fun a8 H8 E8 =>
 condK a8
 ((nilA t2).bind fun a9 =>
 (offA a9 9).bind fun a10 =>
 stoK 1 a10 t4 H8 fun H11 E11 =>
 (nilA t2).bind fun a12 =>
 (offA a12 0).bind fun a13 =>
 (loadA false 1 a13 H11).bind fun a14 =>
 callK (EV C) false n_conf_Has [t3, a14] H11 fun a15 H15 E15 =>
 (unA .not a15).bind fun a16 =>
 splitK a16
 (callK (EV C) false n_raft_stepper_pending [t0] H15 fun a17 H17 E17 =>
 (unA .not a17).bind fun a18 =>
 condK a18
 ((nilA t2).bind fun a19 =>
 (offA a19 3).bind fun a20 =>
 stoK 1 a20 z0 H17 fun H21 E21 =>
 (nilA t2).bind fun a22 =>
 (offA a22 4).bind fun a23 =>
 stoK 1 a23 z0 H21 fun H24 E24 =>
 endB false false n (.tup []) H24 (E24 ++ (E21 ++ (E17 ++ (E15 ++ ((E11 ++ (E8 ++ E)) ++ Ea))))))
 (endB false false n (.tup []) H17 (E17 ++ (E15 ++ ((E11 ++ (E8 ++ E)) ++ Ea)))))
 (endB false false n (.tup []) H15 (E15 ++ ((E11 ++ (E8 ++ E)) ++ Ea))))
 ((binA .sub tI cT true t4 (.int .i64 1)).bind fun a25 =>
 condB (List.all (E8 ++ E) (fun e => decide (List.length Ha ≤ e)) && (AV.bel (List.length Ha) t0 && (AV.bel (List.length Ha) t2 && (AV.bel (List.length Ha) t3 && (AV.bel (List.length Ha) a25 && true)))))
 (raft_stepper_counts_J4 n t0 t2 t3 a25 (List.take (List.length Ha) H8) Ea)))) = some r) : raft_stepper_counts_J10 n Ha Ea t0 t2 t3 t4 t7 t57 t58 H E = some r :=
 loop_step' (by kernel_rfl) hh
theorem raft_stepper_counts_of {x0 : AV} (hh : (fun n => (
 (nilA x0).bind fun a1 =>
 (offA a1 0).bind fun a2 =>
 (nilA a2).bind fun a3 =>
 (offA a3 0).bind fun a4 =>
 (loadA false 1 a4 H).bind fun a5 =>
 callK (EV C) false n_raft_stepper_last [x0] H fun a6 H6 E6 =>
 drawK (((loadA false 1 a4 H6).bind fun a7 =>
 some a7) = some a5)
 ((nilA a2).bind fun a8 =>
 (offA a8 19).bind fun a9 =>
 (arA 8 1 a9 a5).bind fun a10 =>
 stoK 1 a10 a6 H6 fun H11 E11 =>
 callK (EV C) false n_raft_stepper_members [x0] H11 fun a12 H12 E12 =>
 callK (EV C) false n_raft_stepper_last [x0] H12 fun a13 H13 E13 =>
 raft_stepper_counts_J4 n x0 a2 a12 a13 H13 (E13 ++ (E12 ++ (E11 ++ (E6 ++ []))))))) (List.length H) = some r) : EV C n_raft_stepper_counts [x0] H = some r :=
 EV_of_fnK' (fn := Tryz.f59) (by kernel_rfl) (by kernel_rfl) (by kernel_rfl) hh
theorem log_Term_of {x0 x1 : AV} (hh : (fun n => (
 newK x0 H fun a1 H1 E1 =>
 (loadA true 4 a1 H1).bind fun a2 =>
 callK (EV C) false n_log_asked [a2, x1] H1 fun a3 H3 E3 =>
 (binA .neq (Go.TypeDesc.interface #[("Error", 121)]) cT true a3 .nili).bind fun a4 =>
 condK a4
 (endB false false n (.tup [z0, a3]) H3 (E3 ++ (E1 ++ [])))
 ((loadA true 4 a1 H3).bind fun a5 =>
 callK (EV C) false n_log_term [a5, x1] H3 fun a6 H6 E6 =>
 endB false false n (.tup [a6, .nili]) H6 (E6 ++ (E3 ++ (E1 ++ [])))))) (List.length H) = some r) : EV C n_log_Term [x0, x1] H = some r :=
 EV_of_fnK' (fn := Tryz.f60) (by kernel_rfl) (by kernel_rfl) (by kernel_rfl) hh
theorem conf_Step_of {x0 x1 : AV} (hh : (fun n => (
 newK x1 H fun a1 H1 E1 =>
 (lenV x0 H1).bind fun a2 =>
 (loadA false 1 a1 H1).bind fun a3 =>
 (lenV a3 H1).bind fun a4 =>
 (binA .gtr tI cT false a2 a4).bind fun a5 =>
 condK a5
 ((loadA false 1 a1 H1).bind fun a6 =>
 stoK 1 a1 x0 H1 fun H7 E7 =>
 callK (EV C) false n_conf_May [a6] H7 fun a8 H8 E8 =>
 splitK a8
 ((loadA false 1 a1 H8).bind fun a9 =>
 callK (EV C) false n_conf_May [a9] H8 fun a10 H10 E10 =>
 splitK a10
 ((loadA false 1 a1 H10).bind fun a11 =>
 (lenV a11 H10).bind fun a12 =>
 (lenV a6 H10).bind fun a13 =>
 (binA .add tI cT true a13 (.int .i64 1)).bind fun a14 =>
 (binA .eql tI cT false a12 a14).bind fun a15 =>
 splitK a15
 (callK (EV C) false n_ContainsFunc_int [a6, (.clo n_conf_Step_1 [] [a1])] H10 fun a16 H16 E16 =>
 (unA .not a16).bind fun a17 =>
 endB false false n a17 H16 (E16 ++ (E10 ++ (E8 ++ (E7 ++ (E1 ++ []))))))
 (endB false false n (.bool false) H10 (E10 ++ (E8 ++ (E7 ++ (E1 ++ []))))))
 (endB false false n (.bool false) H10 (E10 ++ (E8 ++ (E7 ++ (E1 ++ []))))))
 (endB false false n (.bool false) H8 (E8 ++ (E7 ++ (E1 ++ [])))))
 (callK (EV C) false n_conf_May [x0] H1 fun a18 H18 E18 =>
 splitK a18
 ((loadA false 1 a1 H18).bind fun a19 =>
 callK (EV C) false n_conf_May [a19] H18 fun a20 H20 E20 =>
 splitK a20
 ((loadA false 1 a1 H20).bind fun a21 =>
 (lenV a21 H20).bind fun a22 =>
 (lenV x0 H20).bind fun a23 =>
 (binA .add tI cT true a23 (.int .i64 1)).bind fun a24 =>
 (binA .eql tI cT false a22 a24).bind fun a25 =>
 splitK a25
 (callK (EV C) false n_ContainsFunc_int [x0, (.clo n_conf_Step_1 [] [a1])] H20 fun a26 H26 E26 =>
 (unA .not a26).bind fun a27 =>
 endB false false n a27 H26 (E26 ++ (E20 ++ (E18 ++ (E1 ++ [])))))
 (endB false false n (.bool false) H20 (E20 ++ (E18 ++ (E1 ++ [])))))
 (endB false false n (.bool false) H20 (E20 ++ (E18 ++ (E1 ++ [])))))
 (endB false false n (.bool false) H18 (E18 ++ (E1 ++ [])))))) (List.length H) = some r) : EV C n_conf_Step [x0, x1] H = some r :=
 EV_of_fnK' (fn := Tryz.f61) (by kernel_rfl) (by kernel_rfl) (by kernel_rfl) hh
theorem raft_stepper_pending_of {x0 : AV} (hh : (fun n => (
 (nilA x0).bind fun a1 =>
 (offA a1 0).bind fun a2 =>
 (offA a2 5).bind fun a3 =>
 (loadA true 4 a3 H).bind fun a4 =>
 (nilA x0).bind fun a5 =>
 (offA a5 0).bind fun a6 =>
 (offA a6 9).bind fun a7 =>
 (loadA false 1 a7 H).bind fun a8 =>
 (binA .add tI cT true a8 (.int .i64 1)).bind fun a9 =>
 callK (EV C) false n_raft_stepper_last [x0] H fun a10 H10 E10 =>
 drawK (((loadA true 4 a3 H10).bind fun a11 =>
 some a11) = some a4)
 (drawK (((loadA false 1 a7 H10).bind fun a12 =>
 some a12) = some a8)
 ((callD (EV C) n_log_Slice [a4, a9, a10] H10).bind fun a13 =>
 callK (EV C) false n_ContainsFunc_api_Entry [a13, (.clo n_raft_stepper_pending_1 [] [])] H10 fun a14 H14 E14 =>
 endB false false n a14 H14 (E14 ++ (E10 ++ [])))))) (List.length H) = some r) : EV C n_raft_stepper_pending [x0] H = some r :=
 EV_of_fnK' (fn := Tryz.f62) (by kernel_rfl) (by kernel_rfl) (by kernel_rfl) hh
noncomputable def conf_Bytes_J5 (n : Nat) (t4 t11 t12 t13 : AV) (H : List AObj) (E : List Nat) : Option R3 :=
 lK 63 Tryz.f63 [1, 1, 1, 0, 1, 0] n
 ⟨pat 24 [(4, t4), (11, t11), (12, t12), (13, t13)], H, E⟩
theorem conf_Bytes_J5_of {t4 t11 t12 t13 : AV} (hh : (
 (binA .lss tI cT false t13 t12).bind fun a1 =>
 condK a1
 ((ixA 1 t11 t13 H).bind fun a2 =>
 (loadA false 1 a2 H).bind fun a3 =>
 (cvI .u8 a3).bind fun a4 =>
 litK 1 1 (.int .u8 0) [(0, a4)] H fun a5 H5 E5 =>
 appK 1 1 t4 a5 H5 fun a6 H6 E6 =>
 (binA .add tI cT true t13 (.int .i64 1)).bind fun a7 =>
 conf_Bytes_J5 n a6 t11 t12 a7 H6 ((E6 ++ (E5 ++ [])) ++ E))
 (endB false false n (.tup [t4, .nili]) H E)) = some r) : conf_Bytes_J5 n t4 t11 t12 t13 H E = some r :=
 loop_step' (by kernel_rfl) hh
theorem conf_Bytes_of {x0 : AV} (hh : (fun n => (
 callK (EV C) false n_conf_May [x0] H fun a1 H1 E1 =>
 (unA .not a1).bind fun a2 =>
 condK a2
 (endB false false n (.tup [.nils, (.ifc t_api_Code (.int .i64 1))]) H1 (E1 ++ []))
 ((lenV x0 (H1 ++ [.vrow])).bind fun a3 =>
 conf_Bytes_J5 n (.slc (List.length H1) 0 0 0) x0 a3 z0 (H1 ++ [.vrow]) (E1 ++ [])))) (List.length H) = some r) : EV C n_conf_Bytes [x0] H = some r :=
 EV_of_fnK' (fn := Tryz.f63) (by kernel_rfl) (by kernel_rfl) (by kernel_rfl) hh
theorem log_asked_of {x0 x1 : AV} (hh : (fun n => (
 newK x0 H fun a1 H1 E1 =>
 (loadA true 4 a1 H1).bind fun a2 =>
 callK (EV C) false n_log_Check [a2] H1 fun a3 H3 E3 =>
 (binA .neq (Go.TypeDesc.interface #[("Error", 121)]) cT true a3 .nili).bind fun a4 =>
 condK a4
 (endB false false n a3 H3 (E3 ++ (E1 ++ [])))
 ((loadA true 4 a1 H3).bind fun a5 =>
 callK (EV C) false n_log_has [a5, x1] H3 fun a6 H6 E6 =>
 (unA .not a6).bind fun a7 =>
 condK a7
 (endB false false n (.ifc t_api_Code (.int .i64 9)) H6 (E6 ++ (E3 ++ (E1 ++ []))))
 (endB false false n .nili H6 (E6 ++ (E3 ++ (E1 ++ []))))))) (List.length H) = some r) : EV C n_log_asked [x0, x1] H = some r :=
 EV_of_fnK' (fn := Tryz.f64) (by kernel_rfl) (by kernel_rfl) (by kernel_rfl) hh
theorem log_term_of {x0 x1 : AV} (hh : (fun n => (
 newK x0 H fun a1 H1 E1 =>
 (offA a1 0).bind fun a2 =>
 (offA a2 0).bind fun a3 =>
 (loadA false 1 a3 H1).bind fun a4 =>
 (binA .eql tI cT false x1 a4).bind fun a5 =>
 condK a5
 ((offA a1 0).bind fun a6 =>
 (offA a6 1).bind fun a7 =>
 (loadA false 1 a7 H1).bind fun a8 =>
 endB false false n a8 H1 (E1 ++ []))
 ((offA a1 3).bind fun a9 =>
 (loadA false 1 a9 H1).bind fun a10 =>
 (offA a1 0).bind fun a11 =>
 (offA a11 0).bind fun a12 =>
 (loadA false 1 a12 H1).bind fun a13 =>
 (binA .sub tI cT false x1 a13).bind fun a14 =>
 (binA .sub tI cT true a14 (.int .i64 1)).bind fun a15 =>
 (ixA 3 a10 a15 H1).bind fun a16 =>
 (offA a16 0).bind fun a17 =>
 (loadA false 1 a17 H1).bind fun a18 =>
 endB false false n a18 H1 (E1 ++ [])))) (List.length H) = some r) : EV C n_log_term [x0, x1] H = some r :=
 EV_of_fnK' (fn := Tryz.f65) (by kernel_rfl) (by kernel_rfl) (by kernel_rfl) hh
noncomputable def log_Members_J4 (n : Nat) (t2 t5 : AV) (H : List AObj) (E : List Nat) : Option R3 :=
 lK 66 Tryz.f66 [1, 1, 0, 1, 0] n
 ⟨pat 49 [(2, t2), (5, t5)], H, E⟩
theorem log_Members_J4_of {t2 t5 : AV} (hh : (
 (offA t2 0).bind fun a1 =>
 (offA a1 0).bind fun a2 =>
 (loadA false 1 a2 H).bind fun a3 =>
 (binA .gtr tI cT false t5 a3).bind fun a4 =>
 condK a4
 ((offA t2 3).bind fun a5 =>
 (loadA false 1 a5 H).bind fun a6 =>
 (offA t2 0).bind fun a7 =>
 (offA a7 0).bind fun a8 =>
 (loadA false 1 a8 H).bind fun a9 =>
 (binA .sub tI cT false t5 a9).bind fun a10 =>
 (binA .sub tI cT true a10 (.int .i64 1)).bind fun a11 =>
 (ixA 3 a6 a11 H).bind fun a12 =>
 (loadA true 3 a12 H).bind fun a13 =>
 newK (.agg [z0, z0, .nils]) H fun a14 H14 E14 =>
 stoK 3 a14 a13 H14 fun H15 E15 =>
 (offA a14 1).bind fun a16 =>
 (loadA false 1 a16 H15).bind fun a17 =>
 (binA .eql tI cT true a17 (.int .i64 2)).bind fun a18 =>
 condK a18
 ((offA a14 2).bind fun a19 =>
 (loadA false 1 a19 H15).bind fun a20 =>
 callK (EV C) false n_conf_Of [a20] H15 fun a21 H21 E21 =>
 (extA a21 0).bind fun a22 =>
 (extA a21 1).bind fun a23 =>
 (binA .eql (Go.TypeDesc.interface #[("Error", 121)]) cT true a23 .nili).bind fun a24 =>
 condK a24
 (endB false false n a22 H21 ((E21 ++ (E15 ++ (E14 ++ []))) ++ E))
 ((binA .sub tI cT true t5 (.int .i64 1)).bind fun a25 =>
 condB (List.all (E21 ++ (E15 ++ (E14 ++ []))) (fun e => decide (List.length H ≤ e)) && (AV.bel (List.length H) t2 && (AV.bel (List.length H) a25 && true)))
 (log_Members_J4 n t2 a25 (List.take (List.length H) H21) E)))
 ((binA .sub tI cT true t5 (.int .i64 1)).bind fun a26 =>
 condB (List.all (E15 ++ (E14 ++ [])) (fun e => decide (List.length H ≤ e)) && (AV.bel (List.length H) t2 && (AV.bel (List.length H) a26 && true)))
 (log_Members_J4 n t2 a26 (List.take (List.length H) H15) E)))
 ((offA t2 0).bind fun a27 =>
 (offA a27 2).bind fun a28 =>
 (loadA false 1 a28 H).bind fun a29 =>
 callK (EV C) false n_Clone_int [a29] H fun a30 H30 E30 =>
 endB false false n a30 H30 (E30 ++ E))) = some r) : log_Members_J4 n t2 t5 H E = some r :=
 loop_step' (by kernel_rfl) hh
theorem log_Members_of {x0 x1 : AV} (hh : (fun n => (
 newK x0 H fun a1 H1 E1 =>
 (loadA true 4 a1 H1).bind fun a2 =>
 callK (EV C) false n_log_Check [a2] H1 fun a3 H3 E3 =>
 (binA .neq (Go.TypeDesc.interface #[("Error", 121)]) cT true a3 .nili).bind fun a4 =>
 condK a4
 (endB false false n .nils H3 (E3 ++ (E1 ++ [])))
 ((loadA true 4 a1 H3).bind fun a5 =>
 callK (EV C) false n_log_last [a5] H3 fun a6 H6 E6 =>
 (minA [x1, a6]).bind fun a7 =>
 log_Members_J4 n a1 a7 H6 (E6 ++ (E3 ++ (E1 ++ [])))))) (List.length H) = some r) : EV C n_log_Members [x0, x1] H = some r :=
 EV_of_fnK' (fn := Tryz.f66) (by kernel_rfl) (by kernel_rfl) (by kernel_rfl) hh
theorem Clone_api_Entry_of {x0 : AV} (hh : (fun n => (
 (binA .eql (Go.TypeDesc.slice 86) cT true x0 .nils).bind fun a1 =>
 condK a1
 (endB false false n .nils H [])
 ((appD 3 40 (AV.emp none) x0 H).bind fun a2 =>
 endB false false n a2 H []))) (List.length H) = some r) : EV C0 n_Clone_api_Entry [x0] H = some r :=
 EV_of_fnK' (fn := Tryz.f67) (by kernel_rfl) (by kernel_rfl) (by kernel_rfl) hh
theorem log_count_of {x0 : AV} (hh : (fun n => (
 (binA .geq tI cT true x0 z0).bind fun a1 =>
 splitK a1
 ((binA .leq tI cT true x0 (.int .i64 1152921504606846976)).bind fun a2 =>
 endB false false n a2 H [])
 (endB false false n (.bool false) H []))) (List.length H) = some r) : EV C n_log_count [x0] H = some r :=
 EV_of_fnK' (fn := Tryz.f68) (by kernel_rfl) (by kernel_rfl) (by kernel_rfl) hh
end Go.Pm
