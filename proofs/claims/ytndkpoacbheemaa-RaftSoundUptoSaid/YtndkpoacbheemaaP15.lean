/- A part of the proof: what the functions of the program answer, as plain lists and numbers. -/
import Derived.Test.YtndkpoacbheemaaP8
namespace Go.Pm
open Go.Proofs
set_option linter.unusedVariables false
set_option maxRecDepth 100000
theorem raft_stepper_follows_of {r : R3} {x0 x1 : AV} {H : List AObj} (hh : (fun n => (
 (nilA x0).bind fun a1 =>
 (offA a1 0).bind fun a2 =>
 (offA a2 3).bind fun a3 =>
 stoK 1 a3 (.int .i64 0) H fun H4 E4 =>
 (nilA x0).bind fun a5 =>
 (offA a5 0).bind fun a6 =>
 (offA a6 4).bind fun a7 =>
 stoK 1 a7 x1 H4 fun H8 E8 =>
 (nilA x0).bind fun a9 =>
 (offA a9 0).bind fun a10 =>
 (offA a10 10).bind fun a11 =>
 stoK 1 a11 .nils H8 fun H12 E12 =>
 (nilA x0).bind fun a13 =>
 (offA a13 0).bind fun a14 =>
 (offA a14 27).bind fun a15 =>
 stoK 1 a15 (.int .i64 0) H12 fun H16 E16 =>
 endB false false n (.tup []) H16 (E16 ++ (E12 ++ (E8 ++ (E4 ++ [])))))) (List.length H) = some r) : EV C n_raft_stepper_follows [x0, x1] H = some r :=
 EV_of_fnK' (fn := Try.f86) (by kernel_rfl) (by kernel_rfl) (by kernel_rfl) hh
noncomputable def log_Merge_J5 (n : Nat) (t1 t2 t3 t6 t22 t23 t24 : AV) (H : List AObj) (E : List Nat) : Option R3 :=
 loopK Try.prog C.G (EV C) (C.hint 87) Try.f87 (cAt (bodyOf Try.f87) [1, 1, 0, 1, 0, 0]) (kAt Try.prog C.G (EV C) (C.hint 87) Try.f87 (bodyOf Try.f87) [1, 1, 0, 1, 0] [] (endK Try.prog (C.hint 87) Try.f87 n))
 ⟨pat 75 [(1, t1), (2, t2), (3, t3), (6, t6), (22, t22), (23, t23), (24, t24)], H, E⟩
theorem log_Merge_J5_of {r : R3} {n : Nat} {t1 t2 t3 t6 t22 t23 t24 : AV} {H : List AObj} {E : List Nat} (hh : (
 (binA .lss (Go.TypeDesc.int Go.IntKind.i64) (cmpT Try.prog) false t24 t23).bind fun a1 =>
 condK a1
 ((ixA 3 t22 t24 H).bind fun a2 =>
 (loadA true 3 a2 H).bind fun a3 =>
 newK (.agg [(.int .i64 0), (.int .i64 0), .nils]) H fun a4 H4 E4 =>
 stoK 3 a4 a3 H4 fun H5 E5 =>
 (binA .add (Go.TypeDesc.int Go.IntKind.i64) (cmpT Try.prog) true t1 (.int .i64 1)).bind fun a6 =>
 (binA .add (Go.TypeDesc.int Go.IntKind.i64) (cmpT Try.prog) false a6 t24).bind fun a7 =>
 (loadA true 4 t3 H5).bind fun a8 =>
 (callD (EV C) n_log_last [a8] H5).bind fun a9 =>
 (binA .leq (Go.TypeDesc.int Go.IntKind.i64) (cmpT Try.prog) false a7 a9).bind fun a10 =>
 splitK a10
 ((loadA true 4 t3 H5).bind fun a11 =>
 (callD (EV C) n_log_term [a11, a7] H5).bind fun a12 =>
 (offA a4 0).bind fun a13 =>
 (loadA false 1 a13 H5).bind fun a14 =>
 (binA .eql (Go.TypeDesc.int Go.IntKind.i64) (cmpT Try.prog) false a12 a14).bind fun a15 =>
 condK a15
 ((binA .add (Go.TypeDesc.int Go.IntKind.i64) (cmpT Try.prog) true t24 (.int .i64 1)).bind fun a16 =>
 condB (List.all (E5 ++ (E4 ++ [])) (fun e => decide (List.length H ≤ e)) && (AV.bel (List.length H) t1 && (AV.bel (List.length H) t2 && (AV.bel (List.length H) t3 && (AV.bel (List.length H) t6 && (AV.bel (List.length H) t22 && (AV.bel (List.length H) t23 && (AV.bel (List.length H) a16 && true))))))))
 (log_Merge_J5 n t1 t2 t3 t6 t22 t23 a16 (List.take (List.length H) H5) E))
 ((offA t3 0).bind fun a17 =>
 (loadA true 3 a17 H5).bind fun a18 =>
 (offA t3 3).bind fun a19 =>
 (loadA false 1 a19 H5).bind fun a20 =>
 (offA t3 0).bind fun a21 =>
 (offA a21 0).bind fun a22 =>
 (loadA false 1 a22 H5).bind fun a23 =>
 (binA .sub (Go.TypeDesc.int Go.IntKind.i64) (cmpT Try.prog) false a7 a23).bind fun a24 =>
 (binA .sub (Go.TypeDesc.int Go.IntKind.i64) (cmpT Try.prog) true a24 (.int .i64 1)).bind fun a25 =>
 (cutA 3 a20 none (some a25) none H5).bind fun a26 =>
 (cutA 3 t2 (some t24) none none H5).bind fun a27 =>
 (litD 1 2 .nils [(0, a26), (1, a27)] H5).bind fun a28 =>
 (callD (EV C) n_Concat_api_Entry [a28] H5).bind fun a29 =>
 (fillB (AV.cells (.agg [(.int .i64 0), (.int .i64 0), .nils, .nils])) [(0, 3, a18), (3, 1, a29)]).bind fun c30 =>
 newK (.agg [(.int .i64 0), (.int .i64 0), .nils, .nils]) H5 fun a31 H31 E31 =>
 drawK (((loadA true 3 a17 H31).bind fun a32 =>
 some a32) = some a18)
 (drawK (((loadA false 1 a19 H31).bind fun a33 =>
 some a33) = some a20)
 (drawK (((loadA false 1 a22 H31).bind fun a34 =>
 some a34) = some a23)
 (drawK (((cutA 3 a20 none (some a25) none H31).bind fun a35 =>
 some a35) = some a26)
 (drawK (((cutA 3 t2 (some t24) none none H31).bind fun a36 =>
 some a36) = some a27)
 (drawK (((litD 1 2 .nils [(0, a26), (1, a27)] H31).bind fun a37 =>
 some a37) = some a28)
 (drawK (((callD (EV C) n_Concat_api_Entry [a28] H31).bind fun a38 =>
 some a38) = some a29)
 (stoK 4 a31 (.agg c30) H31 fun H39 E39 =>
 (loadA true 4 a31 H39).bind fun a40 =>
 callK (EV C) false n_log_Check [a40] H39 fun a41 H41 E41 =>
 (binA .neq (Go.TypeDesc.interface #[("Error", 139)]) (cmpT Try.prog) true a41 .nili).bind fun a42 =>
 condK a42
 ((fillB (AV.cells (.agg [(.int .i64 0), (.int .i64 0), .nils, .nils])) []).bind fun c43 =>
 stoK 4 t6 (.agg c43) H41 fun H44 E44 =>
 (loadA true 4 t6 H44).bind fun a45 =>
 endB false false n (.tup [a45, (.int .i64 0), a41]) H44 ((E44 ++ (E41 ++ (E39 ++ (E31 ++ (E5 ++ (E4 ++ [])))))) ++ E))
 ((loadA true 4 a31 H41).bind fun a46 =>
 stoK 4 t6 a46 H41 fun H47 E47 =>
 (loadA true 4 t6 H47).bind fun a48 =>
 endB false false n (.tup [a48, a7, .nili]) H47 ((E47 ++ (E41 ++ (E39 ++ (E31 ++ (E5 ++ (E4 ++ [])))))) ++ E)))))))))))
 ((offA t3 0).bind fun a49 =>
 (loadA true 3 a49 H5).bind fun a50 =>
 (offA t3 3).bind fun a51 =>
 (loadA false 1 a51 H5).bind fun a52 =>
 (offA t3 0).bind fun a53 =>
 (offA a53 0).bind fun a54 =>
 (loadA false 1 a54 H5).bind fun a55 =>
 (binA .sub (Go.TypeDesc.int Go.IntKind.i64) (cmpT Try.prog) false a7 a55).bind fun a56 =>
 (binA .sub (Go.TypeDesc.int Go.IntKind.i64) (cmpT Try.prog) true a56 (.int .i64 1)).bind fun a57 =>
 (cutA 3 a52 none (some a57) none H5).bind fun a58 =>
 (cutA 3 t2 (some t24) none none H5).bind fun a59 =>
 (litD 1 2 .nils [(0, a58), (1, a59)] H5).bind fun a60 =>
 (callD (EV C) n_Concat_api_Entry [a60] H5).bind fun a61 =>
 (fillB (AV.cells (.agg [(.int .i64 0), (.int .i64 0), .nils, .nils])) [(0, 3, a50), (3, 1, a61)]).bind fun c62 =>
 newK (.agg [(.int .i64 0), (.int .i64 0), .nils, .nils]) H5 fun a63 H63 E63 =>
 drawK (((loadA true 3 a49 H63).bind fun a64 =>
 some a64) = some a50)
 (drawK (((loadA false 1 a51 H63).bind fun a65 =>
 some a65) = some a52)
 (drawK (((loadA false 1 a54 H63).bind fun a66 =>
 some a66) = some a55)
 (drawK (((cutA 3 a52 none (some a57) none H63).bind fun a67 =>
 some a67) = some a58)
 (drawK (((cutA 3 t2 (some t24) none none H63).bind fun a68 =>
 some a68) = some a59)
 (drawK (((litD 1 2 .nils [(0, a58), (1, a59)] H63).bind fun a69 =>
 some a69) = some a60)
 (drawK (((callD (EV C) n_Concat_api_Entry [a60] H63).bind fun a70 =>
 some a70) = some a61)
 (stoK 4 a63 (.agg c62) H63 fun H71 E71 =>
 (loadA true 4 a63 H71).bind fun a72 =>
 callK (EV C) false n_log_Check [a72] H71 fun a73 H73 E73 =>
 (binA .neq (Go.TypeDesc.interface #[("Error", 139)]) (cmpT Try.prog) true a73 .nili).bind fun a74 =>
 condK a74
 ((fillB (AV.cells (.agg [(.int .i64 0), (.int .i64 0), .nils, .nils])) []).bind fun c75 =>
 stoK 4 t6 (.agg c75) H73 fun H76 E76 =>
 (loadA true 4 t6 H76).bind fun a77 =>
 endB false false n (.tup [a77, (.int .i64 0), a73]) H76 ((E76 ++ (E73 ++ (E71 ++ (E63 ++ (E5 ++ (E4 ++ [])))))) ++ E))
 ((loadA true 4 a63 H73).bind fun a78 =>
 stoK 4 t6 a78 H73 fun H79 E79 =>
 (loadA true 4 t6 H79).bind fun a80 =>
 endB false false n (.tup [a80, a7, .nili]) H79 ((E79 ++ (E73 ++ (E71 ++ (E63 ++ (E5 ++ (E4 ++ [])))))) ++ E)))))))))))
 ((loadA true 4 t3 H).bind fun a81 =>
 (loadA true 4 t3 H).bind fun a82 =>
 (callD (EV C) n_log_last [a82] H).bind fun a83 =>
 (binA .add (Go.TypeDesc.int Go.IntKind.i64) (cmpT Try.prog) true a83 (.int .i64 1)).bind fun a84 =>
 stoK 4 t6 a81 H fun H85 E85 =>
 (loadA true 4 t6 H85).bind fun a86 =>
 endB false false n (.tup [a86, a84, .nili]) H85 (E85 ++ E))) = some r) : log_Merge_J5 n t1 t2 t3 t6 t22 t23 t24 H E = some r :=
 loop_step' (by kernel_rfl) hh
theorem log_Merge_of {r : R3} {x0 x1 x2 : AV} {H : List AObj} (hh : (fun n => (
 newK x0 H fun a1 H1 E1 =>
 newK (.agg [(.int .i64 0), (.int .i64 0), .nils, .nils]) H1 fun a2 H2 E2 =>
 (loadA true 4 a1 H2).bind fun a3 =>
 callK (EV C) false n_log_asked [a3, x1] H2 fun a4 H4 E4 =>
 (binA .neq (Go.TypeDesc.interface #[("Error", 139)]) (cmpT Try.prog) true a4 .nili).bind fun a5 =>
 condK a5
 ((fillB (AV.cells (.agg [(.int .i64 0), (.int .i64 0), .nils, .nils])) []).bind fun c6 =>
 stoK 4 a2 (.agg c6) H4 fun H7 E7 =>
 (loadA true 4 a2 H7).bind fun a8 =>
 endB false false n (.tup [a8, (.int .i64 0), a4]) H7 (E7 ++ (E4 ++ (E2 ++ (E1 ++ [])))))
 ((lenV x2 H4).bind fun a9 =>
 log_Merge_J5 n x1 x2 a1 a2 x2 a9 (.int .i64 0) H4 (E4 ++ (E2 ++ (E1 ++ [])))))) (List.length H) = some r) : EV C n_log_Merge [x0, x1, x2] H = some r :=
 EV_of_fnK' (fn := Try.f87) (by kernel_rfl) (by kernel_rfl) (by kernel_rfl) hh
theorem ContainsFunc_api_Entry_of {r : R3} {x0 x1 : AV} {H : List AObj} (hh : (fun n => (
 callK (EV C) false n_IndexFunc_api_Entry [x0, x1] H fun a1 H1 E1 =>
 (binA .geq (Go.TypeDesc.int Go.IntKind.i64) (cmpT Try.prog) true a1 (.int .i64 0)).bind fun a2 =>
 endB false false n a2 H1 (E1 ++ []))) (List.length H) = some r) : EV C n_ContainsFunc_api_Entry [x0, x1] H = some r :=
 EV_of_fnK' (fn := Try.f88) (by kernel_rfl) (by kernel_rfl) (by kernel_rfl) hh
theorem raft_stepper_app_1_of {r : R3} {x0 x1 : AV} {H : List AObj} (hh : (fun n => (
 newK x0 H fun a1 H1 E1 =>
 (offA a1 0).bind fun a2 =>
 (loadA false 1 a2 H1).bind fun a3 =>
 (offA x1 3).bind fun a4 =>
 (loadA false 1 a4 H1).bind fun a5 =>
 (binA .gtr (Go.TypeDesc.int Go.IntKind.i64) (cmpT Try.prog) false a3 a5).bind fun a6 =>
 endB false false n a6 H1 (E1 ++ []))) (List.length H) = some r) : EV C n_raft_stepper_app_1 [x0, x1] H = some r :=
 EV_of_fnK' (fn := Try.f89) (by kernel_rfl) (by kernel_rfl) (by kernel_rfl) hh
theorem Clone_byte_of {r : R3} {x0 : AV} {H : List AObj} (hh : (fun n => (
 (binA .eql (Go.TypeDesc.slice 5) (cmpT Try.prog) true x0 .nils).bind fun a1 =>
 condK a1
 (endB false false n .nils H [])
 ((appD 1 1 (AV.emp none) x0 H).bind fun a2 =>
 endB false false n a2 H []))) (List.length H) = some r) : EV C0 n_Clone_byte [x0] H = some r :=
 EV_of_fnK' (fn := Try.f90) (by kernel_rfl) (by kernel_rfl) (by kernel_rfl) hh
theorem ContainsFunc_int_of {r : R3} {x0 x1 : AV} {H : List AObj} (hh : (fun n => (
 callK (EV C) false n_IndexFunc_int [x0, x1] H fun a1 H1 E1 =>
 (binA .geq (Go.TypeDesc.int Go.IntKind.i64) (cmpT Try.prog) true a1 (.int .i64 0)).bind fun a2 =>
 endB false false n a2 H1 (E1 ++ []))) (List.length H) = some r) : EV C n_ContainsFunc_int [x0, x1] H = some r :=
 EV_of_fnK' (fn := Try.f91) (by kernel_rfl) (by kernel_rfl) (by kernel_rfl) hh
theorem conf_Step_1_of {r : R3} {x0 x1 : AV} {H : List AObj} (hh : (fun n => (
 (loadA false 1 x1 H).bind fun a1 =>
 callK (EV C) false n_conf_Has [a1, x0] H fun a2 H2 E2 =>
 (unA .not a2).bind fun a3 =>
 endB false false n a3 H2 (E2 ++ []))) (List.length H) = some r) : EV C n_conf_Step_1 [x0, x1] H = some r :=
 EV_of_fnK' (fn := Try.f92) (by kernel_rfl) (by kernel_rfl) (by kernel_rfl) hh
theorem raft_stepper_pending_1_of {r : R3} {x0 : AV} {H : List AObj} (hh : (fun n => (
 newK x0 H fun a1 H1 E1 =>
 (offA a1 1).bind fun a2 =>
 (loadA false 1 a2 H1).bind fun a3 =>
 (binA .eql (Go.TypeDesc.int Go.IntKind.i64) (cmpT Try.prog) true a3 (.int .i64 2)).bind fun a4 =>
 endB false false n a4 H1 (E1 ++ []))) (List.length H) = some r) : EV C n_raft_stepper_pending_1 [x0] H = some r :=
 EV_of_fnK' (fn := Try.f93) (by kernel_rfl) (by kernel_rfl) (by kernel_rfl) hh
theorem log_has_of {r : R3} {x0 x1 : AV} {H : List AObj} (hh : (fun n => (
 newK x0 H fun a1 H1 E1 =>
 (offA a1 0).bind fun a2 =>
 (offA a2 0).bind fun a3 =>
 (loadA false 1 a3 H1).bind fun a4 =>
 (binA .geq (Go.TypeDesc.int Go.IntKind.i64) (cmpT Try.prog) false x1 a4).bind fun a5 =>
 splitK a5
 ((loadA true 4 a1 H1).bind fun a6 =>
 callK (EV C) false n_log_last [a6] H1 fun a7 H7 E7 =>
 (binA .leq (Go.TypeDesc.int Go.IntKind.i64) (cmpT Try.prog) false x1 a7).bind fun a8 =>
 endB false false n a8 H7 (E7 ++ (E1 ++ [])))
 (endB false false n (.bool false) H1 (E1 ++ [])))) (List.length H) = some r) : EV C n_log_has [x0, x1] H = some r :=
 EV_of_fnK' (fn := Try.f94) (by kernel_rfl) (by kernel_rfl) (by kernel_rfl) hh
noncomputable def conf_Of_J3 (n : Nat) (t4 t7 t8 t9 : AV) (H : List AObj) (E : List Nat) : Option R3 :=
 loopK Try.prog C.G (EV C) (C.hint 95) Try.f95 (cAt (bodyOf Try.f95) [1, 1, 0, 1, 0, 0]) (kAt Try.prog C.G (EV C) (C.hint 95) Try.f95 (bodyOf Try.f95) [1, 1, 0, 1, 0] [] (endK Try.prog (C.hint 95) Try.f95 n))
 ⟨pat 24 [(4, t4), (7, t7), (8, t8), (9, t9)], H, E⟩
theorem conf_Of_J3_of {r : R3} {n : Nat} {t4 t7 t8 t9 : AV} {H : List AObj} {E : List Nat} (hh : (
 (binA .lss (Go.TypeDesc.int Go.IntKind.i64) (cmpT Try.prog) false t9 t8).bind fun a1 =>
 condK a1
 ((ixA 1 t7 t9 H).bind fun a2 =>
 (loadA false 1 a2 H).bind fun a3 =>
 (cvI .i64 a3).bind fun a4 =>
 litK 1 1 (.int .i64 0) [(0, a4)] H fun a5 H5 E5 =>
 appK 1 8 t4 a5 H5 fun a6 H6 E6 =>
 (binA .add (Go.TypeDesc.int Go.IntKind.i64) (cmpT Try.prog) true t9 (.int .i64 1)).bind fun a7 =>
 conf_Of_J3 n a6 t7 t8 a7 H6 ((E6 ++ (E5 ++ [])) ++ E))
 (callK (EV C) false n_conf_May [t4] H fun a8 H8 E8 =>
 (unA .not a8).bind fun a9 =>
 condK a9
 (endB false false n (.tup [.nils, (.ifc t_api_Code (.int .i64 3))]) H8 (E8 ++ E))
 (endB false false n (.tup [t4, .nili]) H8 (E8 ++ E)))) = some r) : conf_Of_J3 n t4 t7 t8 t9 H E = some r :=
 loop_step' (by kernel_rfl) hh
theorem conf_Of_of {r : R3} {x0 : AV} {H : List AObj} (hh : (fun n => (
 (lenV x0 (H ++ [.vrow])).bind fun a1 =>
 conf_Of_J3 n (.slc (List.length H) 0 0 0) x0 a1 (.int .i64 0) (H ++ [.vrow]) [])) (List.length H) = some r) : EV C n_conf_Of [x0] H = some r :=
 EV_of_fnK' (fn := Try.f95) (by kernel_rfl) (by kernel_rfl) (by kernel_rfl) hh
noncomputable def Concat_api_Entry_J3 (n : Nat) (t0 t3 t9 t10 t11 : AV) (H : List AObj) (E : List Nat) : Option R3 :=
 loopK Try.prog C.G (EV C) (C.hint 96) Try.f96 (cAt (bodyOf Try.f96) [1, 1, 0, 1, 0, 0]) (kAt Try.prog C.G (EV C) (C.hint 96) Try.f96 (bodyOf Try.f96) [1, 1, 0, 1, 0] [] (endK Try.prog (C.hint 96) Try.f96 n))
 ⟨pat 36 [(0, t0), (3, t3), (9, t9), (10, t10), (11, t11)], H, E⟩
noncomputable def Concat_api_Entry_J11 (n : Nat) (t6 t25 t26 t27 : AV) (H : List AObj) (E : List Nat) : Option R3 :=
 loopK Try.prog C.G (EV C) (C.hint 96) Try.f96 (cAt (bodyOf Try.f96) [1, 1, 1, 1, 0, 1, 0, 0]) (kAt Try.prog C.G (EV C) (C.hint 96) Try.f96 (bodyOf Try.f96) [1, 1, 1, 1, 0, 1, 0] [] (endK Try.prog (C.hint 96) Try.f96 n))
 ⟨pat 36 [(6, t6), (25, t25), (26, t26), (27, t27)], H, E⟩
theorem Concat_api_Entry_J3_of {r : R3} {n : Nat} {t0 t3 t9 t10 t11 : AV} {H : List AObj} {E : List Nat} (hh : (
 (binA .lss (Go.TypeDesc.int Go.IntKind.i64) (cmpT Try.prog) false t11 t10).bind fun a1 =>
 condK a1
 ((ixA 1 t9 t11 H).bind fun a2 =>
 (loadA false 1 a2 H).bind fun a3 =>
 (lenV a3 H).bind fun a4 =>
 (binA .add (Go.TypeDesc.int Go.IntKind.i64) (cmpT Try.prog) false t3 a4).bind fun a5 =>
 (binA .lss (Go.TypeDesc.int Go.IntKind.i64) (cmpT Try.prog) true a5 (.int .i64 0)).bind fun a6 =>
 condK a6
 (none)
 ((binA .add (Go.TypeDesc.int Go.IntKind.i64) (cmpT Try.prog) true t11 (.int .i64 1)).bind fun a7 =>
 Concat_api_Entry_J3 n t0 a5 t9 t10 a7 H E))
 (callK (EV C) true n_Grow_api_Entry [.nils, t3] H fun a8 H8 E8 =>
 (lenV t0 H8).bind fun a9 =>
 Concat_api_Entry_J11 n a8 t0 a9 (.int .i64 0) H8 (E8 ++ E))) = some r) : Concat_api_Entry_J3 n t0 t3 t9 t10 t11 H E = some r :=
 loop_step' (by kernel_rfl) hh
theorem Concat_api_Entry_J11_of {r : R3} {n : Nat} {t6 t25 t26 t27 : AV} {H : List AObj} {E : List Nat} (hh : (
 (binA .lss (Go.TypeDesc.int Go.IntKind.i64) (cmpT Try.prog) false t27 t26).bind fun a1 =>
 condK a1
 ((ixA 1 t25 t27 H).bind fun a2 =>
 (loadA false 1 a2 H).bind fun a3 =>
 appK 3 40 t6 a3 H fun a4 H4 E4 =>
 (binA .add (Go.TypeDesc.int Go.IntKind.i64) (cmpT Try.prog) true t27 (.int .i64 1)).bind fun a5 =>
 Concat_api_Entry_J11 n a4 t25 t26 a5 H4 ((E4 ++ []) ++ E))
 (endB false false n t6 H E)) = some r) : Concat_api_Entry_J11 n t6 t25 t26 t27 H E = some r :=
 loop_step' (by kernel_rfl) hh
theorem Concat_api_Entry_of {r : R3} {x0 : AV} {H : List AObj} (hh : (fun n => (
 (lenV x0 H).bind fun a1 =>
 Concat_api_Entry_J3 n x0 (.int .i64 0) x0 a1 (.int .i64 0) H [])) (List.length H) = some r) : EV C n_Concat_api_Entry [x0] H = some r :=
 EV_of_fnK' (fn := Try.f96) (by kernel_rfl) (by kernel_rfl) (by kernel_rfl) hh
end Go.Pm
