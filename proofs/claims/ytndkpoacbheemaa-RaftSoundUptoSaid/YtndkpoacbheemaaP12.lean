/- A part of the proof: what the functions of the program answer, as plain lists and numbers. -/
import Derived.Test.YtndkpoacbheemaaP8
namespace Go.Pm
open Go.Proofs
set_option linter.unusedVariables false
set_option maxRecDepth 100000
noncomputable def raft_stepper_others_J1 (n : Nat) (t0 t1 t7 t8 t9 : AV) (H : List AObj) (E : List Nat) : Option R3 :=
 loopK Try.prog C.G (EV C) (C.hint 54) Try.f54 (cAt (bodyOf Try.f54) [1, 0, 0]) (kAt Try.prog C.G (EV C) (C.hint 54) Try.f54 (bodyOf Try.f54) [1, 0] [] (endK Try.prog (C.hint 54) Try.f54 n))
 ⟨pat 24 [(0, t0), (1, t1), (7, t7), (8, t8), (9, t9)], H, E⟩
theorem raft_stepper_others_J1_of {r : R3} {n : Nat} {t0 t1 t7 t8 t9 : AV} {H : List AObj} {E : List Nat} (hh : (
 (binA .lss (Go.TypeDesc.int Go.IntKind.i64) (cmpT Try.prog) false t9 t8).bind fun a1 =>
 condK a1
 ((ixA 1 t7 t9 H).bind fun a2 =>
 (loadA false 1 a2 H).bind fun a3 =>
 (nilA t0).bind fun a4 =>
 (offA a4 0).bind fun a5 =>
 (offA a5 0).bind fun a6 =>
 (loadA false 1 a6 H).bind fun a7 =>
 (binA .neq (Go.TypeDesc.int Go.IntKind.i64) (cmpT Try.prog) false a3 a7).bind fun a8 =>
 condK a8
 (valK Try.prog (EV C) false t1 [a3] H fun a9 H9 E9 =>
 (binA .add (Go.TypeDesc.int Go.IntKind.i64) (cmpT Try.prog) true t9 (.int .i64 1)).bind fun a10 =>
 raft_stepper_others_J1 n t0 t1 t7 t8 a10 H9 ((E9 ++ []) ++ E))
 ((binA .add (Go.TypeDesc.int Go.IntKind.i64) (cmpT Try.prog) true t9 (.int .i64 1)).bind fun a11 =>
 raft_stepper_others_J1 n t0 t1 t7 t8 a11 H E))
 (endB false false n (.tup []) H E)) = some r) : raft_stepper_others_J1 n t0 t1 t7 t8 t9 H E = some r :=
 loop_step' (by kernel_rfl) hh
theorem raft_stepper_others_of {r : R3} {x0 x1 : AV} {H : List AObj} (hh : (fun n => (
 callK (EV C) false n_raft_stepper_members [x0] H fun a1 H1 E1 =>
 (lenV a1 H1).bind fun a2 =>
 raft_stepper_others_J1 n x0 x1 a1 a2 (.int .i64 0) H1 (E1 ++ []))) (List.length H) = some r) : EV C n_raft_stepper_others [x0, x1] H = some r :=
 EV_of_fnK' (fn := Try.f54) (by kernel_rfl) (by kernel_rfl) (by kernel_rfl) hh
theorem raft_stepper_bring_of {r : R3} {x0 x1 : AV} {H : List AObj} (hh : (fun n => (
 (nilA x0).bind fun a1 =>
 (offA a1 0).bind fun a2 =>
 (offA a2 5).bind fun a3 =>
 (offA a3 0).bind fun a4 =>
 (loadA true 3 a4 H).bind fun a5 =>
 newK (.agg [(.int .i64 0), (.int .i64 0), .nils]) H fun a6 H6 E6 =>
 stoK 3 a6 a5 H6 fun H7 E7 =>
 (nilA x0).bind fun a8 =>
 (offA a8 0).bind fun a9 =>
 (offA a9 11).bind fun a10 =>
 (arA 8 1 a10 x1).bind fun a11 =>
 (loadA false 1 a11 H7).bind fun a12 =>
 (offA a6 0).bind fun a13 =>
 (loadA false 1 a13 H7).bind fun a14 =>
 (binA .leq (Go.TypeDesc.int Go.IntKind.i64) (cmpT Try.prog) false a12 a14).bind fun a15 =>
 condK a15
 ((offA a6 0).bind fun a16 =>
 (loadA false 1 a16 H7).bind fun a17 =>
 (offA a6 1).bind fun a18 =>
 (loadA false 1 a18 H7).bind fun a19 =>
 (offA a6 2).bind fun a20 =>
 (loadA false 1 a20 H7).bind fun a21 =>
 (callD (EV C) n_Clone_int [a21] H7).bind fun a22 =>
 (fillB (AV.cells (.agg [(.int .i64 0), (.int .i64 0), (.int .i64 0), (.int .i64 0), (.int .i64 0), (.int .i64 0), (.int .i64 0), (.bool false), .nils, .nils, (.int .i64 0), .nils, (.int .i64 0), .nils, .nils, .nils, .nils])) [(0, 1, (.int .i64 5)), (4, 1, a17), (5, 1, a19), (9, 1, a22)]).bind fun c23 =>
 callK (EV C) false n_raft_stepper_send [x0, x1, (.agg c23)] H7 fun a24 H24 E24 =>
 endB false false n (.tup []) H24 (E24 ++ (E7 ++ (E6 ++ []))))
 ((binA .sub (Go.TypeDesc.int Go.IntKind.i64) (cmpT Try.prog) true a12 (.int .i64 1)).bind fun a25 =>
 callK (EV C) false n_raft_stepper_last [x0] H7 fun a26 H26 E26 =>
 (minA [a25, a26]).bind fun a27 =>
 (nilA x0).bind fun a28 =>
 (offA a28 0).bind fun a29 =>
 (offA a29 5).bind fun a30 =>
 (loadA true 4 a30 H26).bind fun a31 =>
 callK (EV C) false n_log_Term [a31, a27] H26 fun a32 H32 E32 =>
 (extA a32 0).bind fun a33 =>
 (extA a32 1).bind fun a34 =>
 (binA .neq (Go.TypeDesc.interface #[("Error", 139)]) (cmpT Try.prog) true a34 .nili).bind fun a35 =>
 condK a35
 (endB false false n (.tup []) H32 (E32 ++ (E26 ++ (E7 ++ (E6 ++ [])))))
 ((nilA x0).bind fun a36 =>
 (offA a36 0).bind fun a37 =>
 (offA a37 5).bind fun a38 =>
 (loadA true 4 a38 H32).bind fun a39 =>
 (binA .add (Go.TypeDesc.int Go.IntKind.i64) (cmpT Try.prog) true a27 (.int .i64 1)).bind fun a40 =>
 (callD (EV C) n_log_Slice [a39, a40, (.int .i64 8)] H32).bind fun a41 =>
 (nilA x0).bind fun a42 =>
 (offA a42 0).bind fun a43 =>
 (offA a43 9).bind fun a44 =>
 (loadA false 1 a44 H32).bind fun a45 =>
 (fillB (AV.cells (.agg [(.int .i64 0), (.int .i64 0), (.int .i64 0), (.int .i64 0), (.int .i64 0), (.int .i64 0), (.int .i64 0), (.bool false), .nils, .nils, (.int .i64 0), .nils, (.int .i64 0), .nils, .nils, .nils, .nils])) [(0, 1, (.int .i64 3)), (4, 1, a27), (5, 1, a33), (8, 1, a41), (6, 1, a45)]).bind fun c46 =>
 callK (EV C) false n_raft_stepper_send [x0, x1, (.agg c46)] H32 fun a47 H47 E47 =>
 endB false false n (.tup []) H47 (E47 ++ (E32 ++ (E26 ++ (E7 ++ (E6 ++ []))))))))) (List.length H) = some r) : EV C n_raft_stepper_bring [x0, x1] H = some r :=
 EV_of_fnK' (fn := Try.f55) (by kernel_rfl) (by kernel_rfl) (by kernel_rfl) hh
theorem conf_Has_of {r : R3} {x0 x1 : AV} {H : List AObj} (hh : (fun n => (
 callK (EV C) false n_Contains_int [x0, x1] H fun a1 H1 E1 =>
 endB false false n a1 H1 (E1 ++ []))) (List.length H) = some r) : EV C n_conf_Has [x0, x1] H = some r :=
 EV_of_fnK' (fn := Try.f56) (by kernel_rfl) (by kernel_rfl) (by kernel_rfl) hh
theorem raft_stepper_members_of {r : R3} {x0 : AV} {H : List AObj} (hh : (fun n => (
 (nilA x0).bind fun a1 =>
 (offA a1 0).bind fun a2 =>
 (offA a2 5).bind fun a3 =>
 (loadA true 4 a3 H).bind fun a4 =>
 callK (EV C) false n_raft_stepper_last [x0] H fun a5 H5 E5 =>
 drawK (((loadA true 4 a3 H5).bind fun a6 =>
 some a6) = some a4)
 ((callD (EV C) n_log_Members [a4, a5] H5).bind fun a7 =>
 endB false false n a7 H5 (E5 ++ [])))) (List.length H) = some r) : EV C n_raft_stepper_members [x0] H = some r :=
 EV_of_fnK' (fn := Try.f57) (by kernel_rfl) (by kernel_rfl) (by kernel_rfl) hh
theorem raft_stepper_stands_of {r : R3} {x0 x1 : AV} {H : List AObj} (hh : (fun n => (
 newK x0 H fun a1 H1 E1 =>
 (loadA false 1 a1 H1).bind fun a2 =>
 (nilA a2).bind fun a3 =>
 (offA a3 0).bind fun a4 =>
 (nilA a4).bind fun a5 =>
 (offA a5 1).bind fun a6 =>
 (loadA false 1 a6 H1).bind fun a7 =>
 (binA .add (Go.TypeDesc.int Go.IntKind.i64) (cmpT Try.prog) true a7 (.int .i64 1)).bind fun a8 =>
 (nilA a4).bind fun a9 =>
 (offA a9 1).bind fun a10 =>
 stoK 1 a10 a8 H1 fun H11 E11 =>
 (nilA a4).bind fun a12 =>
 (offA a12 0).bind fun a13 =>
 (loadA false 1 a13 H11).bind fun a14 =>
 (nilA a4).bind fun a15 =>
 (offA a15 0).bind fun a16 =>
 (loadA false 1 a16 H11).bind fun a17 =>
 (litD 1 1 (.int .i64 0) [(0, a17)] H11).bind fun a18 =>
 (callD (EV C) n_raft_timeout [x1] H11).bind fun a19 =>
 (nilA a4).bind fun a20 =>
 (offA a20 3).bind fun a21 =>
 stoK 1 a21 (.int .i64 1) H11 fun H22 E22 =>
 drawK (((litD 1 1 (.int .i64 0) [(0, a17)] H22).bind fun a23 =>
 some a23) = some a18)
 ((nilA a4).bind fun a24 =>
 (offA a24 2).bind fun a25 =>
 stoK 1 a25 a14 H22 fun H26 E26 =>
 drawK (((litD 1 1 (.int .i64 0) [(0, a17)] H26).bind fun a27 =>
 some a27) = some a18)
 ((nilA a4).bind fun a28 =>
 (offA a28 10).bind fun a29 =>
 stoK 1 a29 a18 H26 fun H30 E30 =>
 (nilA a4).bind fun a31 =>
 (offA a31 4).bind fun a32 =>
 stoK 1 a32 (.int .i64 0) H30 fun H33 E33 =>
 (nilA a4).bind fun a34 =>
 (offA a34 27).bind fun a35 =>
 stoK 1 a35 (.int .i64 0) H33 fun H36 E36 =>
 (nilA a4).bind fun a37 =>
 (offA a37 28).bind fun a38 =>
 stoK 1 a38 a19 H36 fun H39 E39 =>
 (loadA false 1 a1 H39).bind fun a40 =>
 callK (EV C) false n_raft_stepper_members [a40] H39 fun a41 H41 E41 =>
 (nilA a4).bind fun a42 =>
 (offA a42 10).bind fun a43 =>
 (loadA false 1 a43 H41).bind fun a44 =>
 drawK (((loadA false 1 a43 H39).bind fun a45 =>
 some a45) = some a44)
 ((callD (EV C) n_conf_Most [a41, a44] H41).bind fun a46 =>
 condK a46
 ((loadA false 1 a1 H41).bind fun a47 =>
 callK (EV C) false n_raft_stepper_leads [a47] H41 fun a48 H48 E48 =>
 endB false false n (.tup []) H48 (E48 ++ (E41 ++ (E39 ++ (E36 ++ (E33 ++ (E30 ++ (E26 ++ (E22 ++ (E11 ++ (E1 ++ [])))))))))))
 ((nilA a4).bind fun a49 =>
 (offA a49 5).bind fun a50 =>
 (loadA true 4 a50 H41).bind fun a51 =>
 callK (EV C) false n_log_Last [a51] H41 fun a52 H52 E52 =>
 (extA a52 0).bind fun a53 =>
 (extA a52 1).bind fun a54 =>
 newK (.int .i64 0) H52 fun a55 H55 E55 =>
 newK (.int .i64 0) H55 fun a56 H56 E56 =>
 stoK 1 a55 a53 H56 fun H57 E57 =>
 stoK 1 a56 a54 H57 fun H58 E58 =>
 (loadA false 1 a1 H58).bind fun a59 =>
 callK (EV C) false n_raft_stepper_others [a59, (.clo n_raft_stepper_stands_1 [] [a1, a55, a56])] H58 fun a60 H60 E60 =>
 endB false false n (.tup []) H60 (E60 ++ (E58 ++ (E57 ++ (E56 ++ (E55 ++ (E52 ++ (E41 ++ (E39 ++ (E36 ++ (E33 ++ (E30 ++ (E26 ++ (E22 ++ (E11 ++ (E1 ++ []))))))))))))))))))))) (List.length H) = some r) : EV C n_raft_stepper_stands [x0, x1] H = some r :=
 EV_of_fnK' (fn := Try.f58) (by kernel_rfl) (by kernel_rfl) (by kernel_rfl) hh
theorem raft_stepper_send_of {r : R3} {x0 x1 x2 : AV} {H : List AObj} (hh : (fun n => (
 newK x2 H fun a1 H1 E1 =>
 (nilA x0).bind fun a2 =>
 (offA a2 0).bind fun a3 =>
 (offA a3 0).bind fun a4 =>
 (loadA false 1 a4 H1).bind fun a5 =>
 (nilA x0).bind fun a6 =>
 (offA a6 0).bind fun a7 =>
 (offA a7 1).bind fun a8 =>
 (loadA false 1 a8 H1).bind fun a9 =>
 (offA a1 1).bind fun a10 =>
 stoK 1 a10 a5 H1 fun H11 E11 =>
 drawK (((loadA false 1 a8 H11).bind fun a12 =>
 some a12) = some a9)
 ((offA a1 2).bind fun a13 =>
 stoK 1 a13 x1 H11 fun H14 E14 =>
 drawK (((loadA false 1 a8 H14).bind fun a15 =>
 some a15) = some a9)
 ((offA a1 3).bind fun a16 =>
 stoK 1 a16 a9 H14 fun H17 E17 =>
 (nilA x0).bind fun a18 =>
 (offA a18 29).bind fun a19 =>
 (loadA false 1 a19 H17).bind fun a20 =>
 (loadA true 17 a1 H17).bind fun a21 =>
 (litD 17 1 (.agg [(.int .i64 0), (.int .i64 0), (.int .i64 0), (.int .i64 0), (.int .i64 0), (.int .i64 0), (.int .i64 0), (.bool false), .nils, .nils, (.int .i64 0), .nils, (.int .i64 0), .nils, .nils, .nils, .nils]) [(0, a21)] H17).bind fun a22 =>
 appK 17 248 a20 a22 H17 fun a23 H23 E23 =>
 (nilA x0).bind fun a24 =>
 (offA a24 29).bind fun a25 =>
 stoK 1 a25 a23 H23 fun H26 E26 =>
 endB false false n (.tup []) H26 (E26 ++ (E23 ++ (E17 ++ (E14 ++ (E11 ++ (E1 ++ [])))))))))) (List.length H) = some r) : EV C n_raft_stepper_send [x0, x1, x2] H = some r :=
 EV_of_fnK' (fn := Try.f59) (by kernel_rfl) (by kernel_rfl) (by kernel_rfl) hh
noncomputable def raft_stepper_ask_S4 (n : Nat) (t0 t3 t4 t7 : AV) (H : List AObj) (E : List Nat) : Option R3 :=
 runK Try.prog C.G (EV C) (C.hint 60) Try.f60 (cAt (bodyOf Try.f60) [1, 1, 1, 1]) ⟨pat 73 [(0, t0), (3, t3), (4, t4), (7, t7)], H, E⟩
 (kAt Try.prog C.G (EV C) (C.hint 60) Try.f60 (bodyOf Try.f60) [1, 1, 1, 1] [] (endK Try.prog (C.hint 60) Try.f60 n))
noncomputable def raft_stepper_ask_S6 (n : Nat) (t0 t3 t7 : AV) (H : List AObj) (E : List Nat) : Option R3 :=
 runK Try.prog C.G (EV C) (C.hint 60) Try.f60 (cAt (bodyOf Try.f60) [1, 1, 1, 1, 1]) ⟨pat 73 [(0, t0), (3, t3), (7, t7)], H, E⟩
 (kAt Try.prog C.G (EV C) (C.hint 60) Try.f60 (bodyOf Try.f60) [1, 1, 1, 1, 1] [] (endK Try.prog (C.hint 60) Try.f60 n))
theorem raft_stepper_ask_S4_of {r : R3} {n : Nat} {t0 t3 t4 t7 : AV} {H : List AObj} {E : List Nat} (hh : (
 condK t7
 ((offA t3 1).bind fun a1 =>
 (loadA false 1 a1 H).bind fun a2 =>
 (nilA t4).bind fun a3 =>
 (offA a3 2).bind fun a4 =>
 stoK 1 a4 a2 H fun H5 E5 =>
 (nilA t4).bind fun a6 =>
 (offA a6 27).bind fun a7 =>
 stoK 1 a7 (.int .i64 0) H5 fun H8 E8 =>
 raft_stepper_ask_S6 n t0 t3 t7 H8 (E8 ++ (E5 ++ E)))
 (raft_stepper_ask_S6 n t0 t3 t7 H E)) = some r) : raft_stepper_ask_S4 n t0 t3 t4 t7 H E = some r :=
 Eq.trans (by kernel_rfl) hh
theorem raft_stepper_ask_S6_of {r : R3} {n : Nat} {t0 t3 t7 : AV} {H : List AObj} {E : List Nat} (hh : (
 (offA t3 1).bind fun a1 =>
 (loadA false 1 a1 H).bind fun a2 =>
 (fillB (AV.cells (.agg [(.int .i64 0), (.int .i64 0), (.int .i64 0), (.int .i64 0), (.int .i64 0), (.int .i64 0), (.int .i64 0), (.bool false), .nils, .nils, (.int .i64 0), .nils, (.int .i64 0), .nils, .nils, .nils, .nils])) [(0, 1, (.int .i64 2)), (7, 1, t7)]).bind fun c3 =>
 callK (EV C) false n_raft_stepper_send [t0, a2, (.agg c3)] H fun a4 H4 E4 =>
 endB false false n (.tup []) H4 (E4 ++ E)) = some r) : raft_stepper_ask_S6 n t0 t3 t7 H E = some r :=
 Eq.trans (by kernel_rfl) hh
theorem raft_stepper_ask_of {r : R3} {x0 x1 : AV} {H : List AObj} (hh : (fun n => (
 newK x1 H fun a1 H1 E1 =>
 (nilA x0).bind fun a2 =>
 (offA a2 0).bind fun a3 =>
 (nilA a3).bind fun a4 =>
 (offA a4 5).bind fun a5 =>
 (loadA true 4 a5 H1).bind fun a6 =>
 callK (EV C) false n_log_Last [a6] H1 fun a7 H7 E7 =>
 (extA a7 0).bind fun a8 =>
 (extA a7 1).bind fun a9 =>
 (nilA a3).bind fun a10 =>
 (offA a10 3).bind fun a11 =>
 (loadA false 1 a11 H7).bind fun a12 =>
 (binA .eql (Go.TypeDesc.int Go.IntKind.i64) (cmpT Try.prog) true a12 (.int .i64 0)).bind fun a13 =>
 splitK a13
 ((nilA a3).bind fun a14 =>
 (offA a14 2).bind fun a15 =>
 (loadA false 1 a15 H7).bind fun a16 =>
 (binA .eql (Go.TypeDesc.int Go.IntKind.i64) (cmpT Try.prog) true a16 (.int .i64 0)).bind fun a17 =>
 splitK a17
 ((offA a1 5).bind fun a18 =>
 (loadA false 1 a18 H7).bind fun a19 =>
 (binA .gtr (Go.TypeDesc.int Go.IntKind.i64) (cmpT Try.prog) false a19 a9).bind fun a20 =>
 splitK a20
 (raft_stepper_ask_S4 n x0 a1 a3 (.bool true) H7 (E7 ++ (E1 ++ [])))
 ((offA a1 5).bind fun a21 =>
 (loadA false 1 a21 H7).bind fun a22 =>
 (binA .eql (Go.TypeDesc.int Go.IntKind.i64) (cmpT Try.prog) false a22 a9).bind fun a23 =>
 splitK a23
 ((offA a1 4).bind fun a24 =>
 (loadA false 1 a24 H7).bind fun a25 =>
 (binA .geq (Go.TypeDesc.int Go.IntKind.i64) (cmpT Try.prog) false a25 a8).bind fun a26 =>
 raft_stepper_ask_S4 n x0 a1 a3 a26 H7 (E7 ++ (E1 ++ [])))
 (raft_stepper_ask_S4 n x0 a1 a3 (.bool false) H7 (E7 ++ (E1 ++ [])))))
 ((nilA a3).bind fun a27 =>
 (offA a27 2).bind fun a28 =>
 (loadA false 1 a28 H7).bind fun a29 =>
 (offA a1 1).bind fun a30 =>
 (loadA false 1 a30 H7).bind fun a31 =>
 (binA .eql (Go.TypeDesc.int Go.IntKind.i64) (cmpT Try.prog) false a29 a31).bind fun a32 =>
 splitK a32
 ((offA a1 5).bind fun a33 =>
 (loadA false 1 a33 H7).bind fun a34 =>
 (binA .gtr (Go.TypeDesc.int Go.IntKind.i64) (cmpT Try.prog) false a34 a9).bind fun a35 =>
 splitK a35
 (raft_stepper_ask_S4 n x0 a1 a3 (.bool true) H7 (E7 ++ (E1 ++ [])))
 ((offA a1 5).bind fun a36 =>
 (loadA false 1 a36 H7).bind fun a37 =>
 (binA .eql (Go.TypeDesc.int Go.IntKind.i64) (cmpT Try.prog) false a37 a9).bind fun a38 =>
 splitK a38
 ((offA a1 4).bind fun a39 =>
 (loadA false 1 a39 H7).bind fun a40 =>
 (binA .geq (Go.TypeDesc.int Go.IntKind.i64) (cmpT Try.prog) false a40 a8).bind fun a41 =>
 raft_stepper_ask_S4 n x0 a1 a3 a41 H7 (E7 ++ (E1 ++ [])))
 (raft_stepper_ask_S4 n x0 a1 a3 (.bool false) H7 (E7 ++ (E1 ++ [])))))
 (raft_stepper_ask_S4 n x0 a1 a3 (.bool false) H7 (E7 ++ (E1 ++ [])))))
 (raft_stepper_ask_S4 n x0 a1 a3 (.bool false) H7 (E7 ++ (E1 ++ []))))) (List.length H) = some r) : EV C n_raft_stepper_ask [x0, x1] H = some r :=
 EV_of_fnK' (fn := Try.f60) (by kernel_rfl) (by kernel_rfl) (by kernel_rfl) hh
theorem Clone_int_of {r : R3} {x0 : AV} {H : List AObj} (hh : (fun n => (
 (binA .eql (Go.TypeDesc.slice 3) (cmpT Try.prog) true x0 .nils).bind fun a1 =>
 condK a1
 (endB false false n .nils H [])
 ((appD 1 8 (AV.emp none) x0 H).bind fun a2 =>
 endB false false n a2 H []))) (List.length H) = some r) : EV C0 n_Clone_int [x0] H = some r :=
 EV_of_fnK' (fn := Try.f61) (by kernel_rfl) (by kernel_rfl) (by kernel_rfl) hh
noncomputable def conf_Most_J3 (n : Nat) (t0 t1 t5 t8 t9 t10 : AV) (H : List AObj) (E : List Nat) : Option R3 :=
 loopK Try.prog C.G (EV C) (C.hint 62) Try.f62 (cAt (bodyOf Try.f62) [1, 1, 0, 1, 0, 0]) (kAt Try.prog C.G (EV C) (C.hint 62) Try.f62 (bodyOf Try.f62) [1, 1, 0, 1, 0] [] (endK Try.prog (C.hint 62) Try.f62 n))
 ⟨pat 29 [(0, t0), (1, t1), (5, t5), (8, t8), (9, t9), (10, t10)], H, E⟩
theorem conf_Most_J3_of {r : R3} {n : Nat} {t0 t1 t5 t8 t9 t10 : AV} {H : List AObj} {E : List Nat} (hh : (
 (binA .lss (Go.TypeDesc.int Go.IntKind.i64) (cmpT Try.prog) false t10 t9).bind fun a1 =>
 condK a1
 ((ixA 1 t8 t10 H).bind fun a2 =>
 (loadA false 1 a2 H).bind fun a3 =>
 callK (EV C) false n_conf_Has [t1, a3] H fun a4 H4 E4 =>
 condK a4
 ((binA .add (Go.TypeDesc.int Go.IntKind.i64) (cmpT Try.prog) true t5 (.int .i64 1)).bind fun a5 =>
 (binA .add (Go.TypeDesc.int Go.IntKind.i64) (cmpT Try.prog) true t10 (.int .i64 1)).bind fun a6 =>
 conf_Most_J3 n t0 t1 a5 t8 t9 a6 H4 ((E4 ++ []) ++ E))
 ((binA .add (Go.TypeDesc.int Go.IntKind.i64) (cmpT Try.prog) true t10 (.int .i64 1)).bind fun a7 =>
 conf_Most_J3 n t0 t1 t5 t8 t9 a7 H4 ((E4 ++ []) ++ E)))
 (callK (EV C) false n_conf_May [t0] H fun a8 H8 E8 =>
 splitK a8
 ((binA .mul (Go.TypeDesc.int Go.IntKind.i64) (cmpT Try.prog) true (.int .i64 2) t5).bind fun a9 =>
 (lenV t0 H8).bind fun a10 =>
 (binA .gtr (Go.TypeDesc.int Go.IntKind.i64) (cmpT Try.prog) false a9 a10).bind fun a11 =>
 endB false false n a11 H8 (E8 ++ E))
 (endB false false n (.bool false) H8 (E8 ++ E)))) = some r) : conf_Most_J3 n t0 t1 t5 t8 t9 t10 H E = some r :=
 loop_step' (by kernel_rfl) hh
theorem conf_Most_of {r : R3} {x0 x1 : AV} {H : List AObj} (hh : (fun n => (
 (lenV x0 H).bind fun a1 =>
 conf_Most_J3 n x0 x1 (.int .i64 0) x0 a1 (.int .i64 0) H [])) (List.length H) = some r) : EV C n_conf_Most [x0, x1] H = some r :=
 EV_of_fnK' (fn := Try.f62) (by kernel_rfl) (by kernel_rfl) (by kernel_rfl) hh
noncomputable def raft_stepper_leads_J3 (n : Nat) (t0 t2 t23 : AV) (H : List AObj) (E : List Nat) : Option R3 :=
 loopK Try.prog C.G (EV C) (C.hint 63) Try.f63 (cAt (bodyOf Try.f63) [1, 1, 0, 1, 0, 0]) (kAt Try.prog C.G (EV C) (C.hint 63) Try.f63 (bodyOf Try.f63) [1, 1, 0, 1, 0] [] (endK Try.prog (C.hint 63) Try.f63 n))
 ⟨pat 49 [(0, t0), (2, t2), (23, t23)], H, E⟩
theorem raft_stepper_leads_J3_of {r : R3} {n : Nat} {t0 t2 t23 : AV} {H : List AObj} {E : List Nat} (hh : (
 (binA .lss (Go.TypeDesc.int Go.IntKind.i64) (cmpT Try.prog) true t23 (.int .i64 8)).bind fun a1 =>
 condK a1
 (callK (EV C) false n_raft_stepper_last [t0] H fun a2 H2 E2 =>
 (binA .add (Go.TypeDesc.int Go.IntKind.i64) (cmpT Try.prog) true a2 (.int .i64 1)).bind fun a3 =>
 (minA [a3, (.int .i64 1152921504606846976)]).bind fun a4 =>
 (nilA t2).bind fun a5 =>
 (offA a5 11).bind fun a6 =>
 (arA 8 1 a6 t23).bind fun a7 =>
 stoK 1 a7 a4 H2 fun H8 E8 =>
 (nilA t2).bind fun a9 =>
 (offA a9 19).bind fun a10 =>
 (arA 8 1 a10 t23).bind fun a11 =>
 stoK 1 a11 (.int .i64 0) H8 fun H12 E12 =>
 (binA .add (Go.TypeDesc.int Go.IntKind.i64) (cmpT Try.prog) true t23 (.int .i64 1)).bind fun a13 =>
 raft_stepper_leads_J3 n t0 t2 a13 H12 ((E12 ++ (E8 ++ (E2 ++ []))) ++ E))
 (callK (EV C) false n_raft_stepper_add [t0, (.int .i64 0), .nils] H fun a14 H14 E14 =>
 callK (EV C) false n_raft_stepper_counts [t0] H14 fun a15 H15 E15 =>
 callK (EV C) false n_raft_stepper_others [t0, (.clo n_raft_stepper_bring [t0] [])] H15 fun a16 H16 E16 =>
 endB false false n (.tup []) H16 (E16 ++ (E15 ++ (E14 ++ E))))) = some r) : raft_stepper_leads_J3 n t0 t2 t23 H E = some r :=
 loop_step' (by kernel_rfl) hh
theorem raft_stepper_leads_of {r : R3} {x0 : AV} {H : List AObj} (hh : (fun n => (
 (nilA x0).bind fun a1 =>
 (offA a1 0).bind fun a2 =>
 (nilA a2).bind fun a3 =>
 (offA a3 0).bind fun a4 =>
 (loadA false 1 a4 H).bind fun a5 =>
 (nilA a2).bind fun a6 =>
 (offA a6 3).bind fun a7 =>
 stoK 1 a7 (.int .i64 2) H fun H8 E8 =>
 (nilA a2).bind fun a9 =>
 (offA a9 4).bind fun a10 =>
 stoK 1 a10 a5 H8 fun H11 E11 =>
 (nilA a2).bind fun a12 =>
 (offA a12 27).bind fun a13 =>
 stoK 1 a13 (.int .i64 0) H11 fun H14 E14 =>
 (nilA a2).bind fun a15 =>
 (offA a15 10).bind fun a16 =>
 stoK 1 a16 .nils H14 fun H17 E17 =>
 raft_stepper_leads_J3 n x0 a2 (.int .i64 0) H17 (E17 ++ (E14 ++ (E11 ++ (E8 ++ [])))))) (List.length H) = some r) : EV C n_raft_stepper_leads [x0] H = some r :=
 EV_of_fnK' (fn := Try.f63) (by kernel_rfl) (by kernel_rfl) (by kernel_rfl) hh
end Go.Pm
