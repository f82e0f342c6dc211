/- A part of the proof: what the functions of the program answer, as plain lists and numbers. -/
import Derived.Test.YtndkpoacbheemaaP8
namespace Go.Pm
open Go.Proofs
set_option linter.unusedVariables false
set_option maxRecDepth 100000
noncomputable def raft_stepper_app_S11 (n : Nat) (t0 t3 t4 t5 t6 : AV) (H : List AObj) (E : List Nat) : Option R3 :=
 runK Try.prog C.G (EV C) (C.hint 64) Try.f64 (cAt (bodyOf Try.f64) [1, 1, 1, 1, 1, 1]) ⟨pat 128 [(0, t0), (3, t3), (4, t4), (5, t5), (6, t6)], H, E⟩
 (kAt Try.prog C.G (EV C) (C.hint 64) Try.f64 (bodyOf Try.f64) [1, 1, 1, 1, 1, 1] [] (endK Try.prog (C.hint 64) Try.f64 n))
theorem raft_stepper_app_S11_of {r : R3} {n : Nat} {t0 t3 t4 t5 t6 : AV} {H : List AObj} {E : List Nat} (hh : (
 (nilA t4).bind fun a1 =>
 (offA a1 5).bind fun a2 =>
 (loadA true 4 a2 H).bind fun a3 =>
 callK (EV C) false n_log_Merge [a3, t5, t6] H fun a4 H4 E4 =>
 (extA a4 0).bind fun a5 =>
 (extA a4 1).bind fun a6 =>
 (extA a4 2).bind fun a7 =>
 newK (.agg [(.int .i64 0), (.int .i64 0), .nils, .nils]) H4 fun a8 H8 E8 =>
 stoK 4 a8 a5 H8 fun H9 E9 =>
 (binA .neq (Go.TypeDesc.interface #[("Error", 139)]) (cmpT Try.prog) true a7 .nili).bind fun a10 =>
 splitK a10
 (endB false false n (.tup []) H9 (E9 ++ (E8 ++ (E4 ++ E))))
 ((nilA t4).bind fun a11 =>
 (offA a11 9).bind fun a12 =>
 (loadA false 1 a12 H9).bind fun a13 =>
 (binA .leq (Go.TypeDesc.int Go.IntKind.i64) (cmpT Try.prog) false a6 a13).bind fun a14 =>
 splitK a14
 (endB false false n (.tup []) H9 (E9 ++ (E8 ++ (E4 ++ E))))
 (callK (EV C) false n_ContainsFunc_api_Entry [t6, (.clo n_raft_stepper_app_1 [] [t3])] H9 fun a15 H15 E15 =>
 condK a15
 (endB false false n (.tup []) H15 (E15 ++ (E9 ++ (E8 ++ (E4 ++ E)))))
 ((loadA true 4 a8 H15).bind fun a16 =>
 (nilA t4).bind fun a17 =>
 (offA a17 5).bind fun a18 =>
 stoK 4 a18 a16 H15 fun H19 E19 =>
 (lenV t6 H19).bind fun a20 =>
 (binA .add (Go.TypeDesc.int Go.IntKind.i64) (cmpT Try.prog) false t5 a20).bind fun a21 =>
 (nilA t4).bind fun a22 =>
 (offA a22 9).bind fun a23 =>
 (loadA false 1 a23 H19).bind fun a24 =>
 (offA t3 6).bind fun a25 =>
 (loadA false 1 a25 H19).bind fun a26 =>
 (minA [a26, a21]).bind fun a27 =>
 (maxA [a24, a27]).bind fun a28 =>
 (nilA t4).bind fun a29 =>
 (offA a29 9).bind fun a30 =>
 stoK 1 a30 a28 H19 fun H31 E31 =>
 (offA t3 1).bind fun a32 =>
 (loadA false 1 a32 H31).bind fun a33 =>
 (fillB (AV.cells (.agg [(.int .i64 0), (.int .i64 0), (.int .i64 0), (.int .i64 0), (.int .i64 0), (.int .i64 0), (.int .i64 0), (.bool false), .nils, .nils, (.int .i64 0), .nils, (.int .i64 0), .nils, .nils, .nils, .nils])) [(0, 1, (.int .i64 4)), (7, 1, (.bool true)), (4, 1, a21)]).bind fun c34 =>
 callK (EV C) false n_raft_stepper_send [t0, a33, (.agg c34)] H31 fun a35 H35 E35 =>
 endB false false n (.tup []) H35 (E35 ++ (E31 ++ (E19 ++ (E15 ++ (E9 ++ (E8 ++ (E4 ++ E))))))))))) = some r) : raft_stepper_app_S11 n t0 t3 t4 t5 t6 H E = some r :=
 Eq.trans (by kernel_rfl) hh
theorem raft_stepper_app_of {r : R3} {x0 x1 : AV} {H : List AObj} (hh : (fun n => (
 newK x1 H fun a1 H1 E1 =>
 (nilA x0).bind fun a2 =>
 (offA a2 0).bind fun a3 =>
 (nilA a3).bind fun a4 =>
 (offA a4 3).bind fun a5 =>
 (loadA false 1 a5 H1).bind fun a6 =>
 (binA .eql (Go.TypeDesc.int Go.IntKind.i64) (cmpT Try.prog) true a6 (.int .i64 2)).bind fun a7 =>
 condK a7
 (endB false false n (.tup []) H1 (E1 ++ []))
 ((offA a1 1).bind fun a8 =>
 (loadA false 1 a8 H1).bind fun a9 =>
 callK (EV C) false n_raft_stepper_follows [x0, a9] H1 fun a10 H10 E10 =>
 (offA a1 4).bind fun a11 =>
 (loadA false 1 a11 H10).bind fun a12 =>
 (offA a1 8).bind fun a13 =>
 (loadA false 1 a13 H10).bind fun a14 =>
 (nilA a3).bind fun a15 =>
 (offA a15 5).bind fun a16 =>
 (offA a16 0).bind fun a17 =>
 (offA a17 0).bind fun a18 =>
 (loadA false 1 a18 H10).bind fun a19 =>
 (binA .lss (Go.TypeDesc.int Go.IntKind.i64) (cmpT Try.prog) false a12 a19).bind fun a20 =>
 condK a20
 ((binA .sub (Go.TypeDesc.int Go.IntKind.i64) (cmpT Try.prog) false a19 a12).bind fun a21 =>
 (lenV a14 H10).bind fun a22 =>
 (minA [a21, a22]).bind fun a23 =>
 (cutA 3 a14 (some a23) none none H10).bind fun a24 =>
 raft_stepper_app_S11 n x0 a1 a3 a19 a24 H10 (E10 ++ (E1 ++ [])))
 ((nilA a3).bind fun a25 =>
 (offA a25 5).bind fun a26 =>
 (loadA true 4 a26 H10).bind fun a27 =>
 callK (EV C) false n_log_Term [a27, a12] H10 fun a28 H28 E28 =>
 (extA a28 0).bind fun a29 =>
 (extA a28 1).bind fun a30 =>
 (binA .neq (Go.TypeDesc.interface #[("Error", 139)]) (cmpT Try.prog) true a30 .nili).bind fun a31 =>
 splitK a31
 ((offA a1 1).bind fun a32 =>
 (loadA false 1 a32 H28).bind fun a33 =>
 (binA .sub (Go.TypeDesc.int Go.IntKind.i64) (cmpT Try.prog) true a12 (.int .i64 1)).bind fun a34 =>
 callK (EV C) false n_raft_stepper_last [x0] H28 fun a35 H35 E35 =>
 drawK (((loadA false 1 a32 H35).bind fun a36 =>
 some a36) = some a33)
 ((minA [a34, a35]).bind fun a37 =>
 (maxA [a37, (.int .i64 0)]).bind fun a38 =>
 (fillB (AV.cells (.agg [(.int .i64 0), (.int .i64 0), (.int .i64 0), (.int .i64 0), (.int .i64 0), (.int .i64 0), (.int .i64 0), (.bool false), .nils, .nils, (.int .i64 0), .nils, (.int .i64 0), .nils, .nils, .nils, .nils])) [(0, 1, (.int .i64 4)), (4, 1, a38)]).bind fun c39 =>
 callK (EV C) false n_raft_stepper_send [x0, a33, (.agg c39)] H35 fun a40 H40 E40 =>
 endB false false n (.tup []) H40 (E40 ++ (E35 ++ (E28 ++ (E10 ++ (E1 ++ [])))))))
 ((offA a1 5).bind fun a41 =>
 (loadA false 1 a41 H28).bind fun a42 =>
 (binA .neq (Go.TypeDesc.int Go.IntKind.i64) (cmpT Try.prog) false a29 a42).bind fun a43 =>
 condK a43
 ((offA a1 1).bind fun a44 =>
 (loadA false 1 a44 H28).bind fun a45 =>
 (binA .sub (Go.TypeDesc.int Go.IntKind.i64) (cmpT Try.prog) true a12 (.int .i64 1)).bind fun a46 =>
 callK (EV C) false n_raft_stepper_last [x0] H28 fun a47 H47 E47 =>
 drawK (((loadA false 1 a44 H47).bind fun a48 =>
 some a48) = some a45)
 ((minA [a46, a47]).bind fun a49 =>
 (maxA [a49, (.int .i64 0)]).bind fun a50 =>
 (fillB (AV.cells (.agg [(.int .i64 0), (.int .i64 0), (.int .i64 0), (.int .i64 0), (.int .i64 0), (.int .i64 0), (.int .i64 0), (.bool false), .nils, .nils, (.int .i64 0), .nils, (.int .i64 0), .nils, .nils, .nils, .nils])) [(0, 1, (.int .i64 4)), (4, 1, a50)]).bind fun c51 =>
 callK (EV C) false n_raft_stepper_send [x0, a45, (.agg c51)] H47 fun a52 H52 E52 =>
 endB false false n (.tup []) H52 (E52 ++ (E47 ++ (E28 ++ (E10 ++ (E1 ++ [])))))))
 (raft_stepper_app_S11 n x0 a1 a3 a12 a14 H28 (E28 ++ (E10 ++ (E1 ++ []))))))))) (List.length H) = some r) : EV C n_raft_stepper_app [x0, x1] H = some r :=
 EV_of_fnK' (fn := Try.f64) (by kernel_rfl) (by kernel_rfl) (by kernel_rfl) hh
noncomputable def raft_stepper_snap_S13 (n : Nat) (t0 t3 t4 t6 : AV) (H : List AObj) (E : List Nat) : Option R3 :=
 runK Try.prog C.G (EV C) (C.hint 65) Try.f65 (cAt (bodyOf Try.f65) [1, 1, 1, 1, 1, 1, 1, 1]) ⟨pat 121 [(0, t0), (3, t3), (4, t4), (6, t6)], H, E⟩
 (kAt Try.prog C.G (EV C) (C.hint 65) Try.f65 (bodyOf Try.f65) [1, 1, 1, 1, 1, 1, 1, 1] [] (endK Try.prog (C.hint 65) Try.f65 n))
theorem raft_stepper_snap_S13_of {r : R3} {n : Nat} {t0 t3 t4 t6 : AV} {H : List AObj} {E : List Nat} (hh : (
 (loadA true 4 t6 H).bind fun a1 =>
 callK (EV C) false n_log_Check [a1] H fun a2 H2 E2 =>
 (binA .neq (Go.TypeDesc.interface #[("Error", 139)]) (cmpT Try.prog) true a2 .nili).bind fun a3 =>
 condK a3
 (endB false false n (.tup []) H2 (E2 ++ E))
 ((loadA true 4 t6 H2).bind fun a4 =>
 (offA t3 4).bind fun a5 =>
 (loadA false 1 a5 H2).bind fun a6 =>
 (nilA t4).bind fun a7 =>
 (offA a7 5).bind fun a8 =>
 stoK 4 a8 a4 H2 fun H9 E9 =>
 drawK (((loadA false 1 a5 H9).bind fun a10 =>
 some a10) = some a6)
 ((nilA t4).bind fun a11 =>
 (offA a11 9).bind fun a12 =>
 stoK 1 a12 a6 H9 fun H13 E13 =>
 (offA t3 1).bind fun a14 =>
 (loadA false 1 a14 H13).bind fun a15 =>
 (offA t3 4).bind fun a16 =>
 (loadA false 1 a16 H13).bind fun a17 =>
 (fillB (AV.cells (.agg [(.int .i64 0), (.int .i64 0), (.int .i64 0), (.int .i64 0), (.int .i64 0), (.int .i64 0), (.int .i64 0), (.bool false), .nils, .nils, (.int .i64 0), .nils, (.int .i64 0), .nils, .nils, .nils, .nils])) [(0, 1, (.int .i64 4)), (7, 1, (.bool true)), (4, 1, a17)]).bind fun c18 =>
 callK (EV C) false n_raft_stepper_send [t0, a15, (.agg c18)] H13 fun a19 H19 E19 =>
 (offA t3 4).bind fun a20 =>
 (loadA false 1 a20 H19).bind fun a21 =>
 (nilA t0).bind fun a22 =>
 (offA a22 30).bind fun a23 =>
 stoK 1 a23 a21 H19 fun H24 E24 =>
 endB false false n (.tup []) H24 (E24 ++ (E19 ++ (E13 ++ (E9 ++ (E2 ++ E)))))))) = some r) : raft_stepper_snap_S13 n t0 t3 t4 t6 H E = some r :=
 Eq.trans (by kernel_rfl) hh
theorem raft_stepper_snap_of {r : R3} {x0 x1 : AV} {H : List AObj} (hh : (fun n => (
 newK x1 H fun a1 H1 E1 =>
 (nilA x0).bind fun a2 =>
 (offA a2 0).bind fun a3 =>
 (nilA a3).bind fun a4 =>
 (offA a4 3).bind fun a5 =>
 (loadA false 1 a5 H1).bind fun a6 =>
 (binA .eql (Go.TypeDesc.int Go.IntKind.i64) (cmpT Try.prog) true a6 (.int .i64 2)).bind fun a7 =>
 splitK a7
 (endB false false n (.tup []) H1 (E1 ++ []))
 ((offA a1 9).bind fun a8 =>
 (loadA false 1 a8 H1).bind fun a9 =>
 (callD (EV C) n_conf_May [a9] H1).bind fun a10 =>
 (unA .not a10).bind fun a11 =>
 splitK a11
 (endB false false n (.tup []) H1 (E1 ++ []))
 ((offA a1 5).bind fun a12 =>
 (loadA false 1 a12 H1).bind fun a13 =>
 (nilA a3).bind fun a14 =>
 (offA a14 1).bind fun a15 =>
 (loadA false 1 a15 H1).bind fun a16 =>
 (binA .gtr (Go.TypeDesc.int Go.IntKind.i64) (cmpT Try.prog) false a13 a16).bind fun a17 =>
 condK a17
 (endB false false n (.tup []) H1 (E1 ++ []))
 ((offA a1 1).bind fun a18 =>
 (loadA false 1 a18 H1).bind fun a19 =>
 callK (EV C) false n_raft_stepper_follows [x0, a19] H1 fun a20 H20 E20 =>
 (offA a1 4).bind fun a21 =>
 (loadA false 1 a21 H20).bind fun a22 =>
 (nilA a3).bind fun a23 =>
 (offA a23 9).bind fun a24 =>
 (loadA false 1 a24 H20).bind fun a25 =>
 (binA .leq (Go.TypeDesc.int Go.IntKind.i64) (cmpT Try.prog) false a22 a25).bind fun a26 =>
 condK a26
 ((offA a1 1).bind fun a27 =>
 (loadA false 1 a27 H20).bind fun a28 =>
 (nilA a3).bind fun a29 =>
 (offA a29 9).bind fun a30 =>
 (loadA false 1 a30 H20).bind fun a31 =>
 (fillB (AV.cells (.agg [(.int .i64 0), (.int .i64 0), (.int .i64 0), (.int .i64 0), (.int .i64 0), (.int .i64 0), (.int .i64 0), (.bool false), .nils, .nils, (.int .i64 0), .nils, (.int .i64 0), .nils, .nils, .nils, .nils])) [(0, 1, (.int .i64 4)), (7, 1, (.bool true)), (4, 1, a31)]).bind fun c32 =>
 callK (EV C) false n_raft_stepper_send [x0, a28, (.agg c32)] H20 fun a33 H33 E33 =>
 endB false false n (.tup []) H33 (E33 ++ (E20 ++ (E1 ++ []))))
 ((offA a1 4).bind fun a34 =>
 (loadA false 1 a34 H20).bind fun a35 =>
 (offA a1 5).bind fun a36 =>
 (loadA false 1 a36 H20).bind fun a37 =>
 (offA a1 9).bind fun a38 =>
 (loadA false 1 a38 H20).bind fun a39 =>
 (callD (EV C) n_Clone_int [a39] H20).bind fun a40 =>
 (fillB (AV.cells (.agg [(.int .i64 0), (.int .i64 0), .nils])) [(0, 1, a35), (1, 1, a37), (2, 1, a40)]).bind fun c41 =>
 newK (.agg [(.int .i64 0), (.int .i64 0), .nils]) H20 fun a42 H42 E42 =>
 drawK (((loadA false 1 a34 H42).bind fun a43 =>
 some a43) = some a35)
 (drawK (((loadA false 1 a36 H42).bind fun a44 =>
 some a44) = some a37)
 (drawK (((loadA false 1 a38 H42).bind fun a45 =>
 some a45) = some a39)
 (drawK (((callD (EV C) n_Clone_int [a39] H42).bind fun a46 =>
 some a46) = some a40)
 (stoK 3 a42 (.agg c41) H42 fun H47 E47 =>
 (loadA true 3 a42 H47).bind fun a48 =>
 (fillB (AV.cells (.agg [(.int .i64 0), (.int .i64 0), .nils, .nils])) [(0, 3, a48)]).bind fun c49 =>
 newK (.agg [(.int .i64 0), (.int .i64 0), .nils, .nils]) H47 fun a50 H50 E50 =>
 stoK 4 a50 (.agg c49) H50 fun H51 E51 =>
 (nilA a3).bind fun a52 =>
 (offA a52 5).bind fun a53 =>
 (loadA true 4 a53 H51).bind fun a54 =>
 (offA a1 4).bind fun a55 =>
 (loadA false 1 a55 H51).bind fun a56 =>
 (callD (EV C) n_log_Term [a54, a56] H51).bind fun a57 =>
 (extA a57 0).bind fun a58 =>
 (extA a57 1).bind fun a59 =>
 (binA .eql (Go.TypeDesc.interface #[("Error", 139)]) (cmpT Try.prog) true a59 .nili).bind fun a60 =>
 splitK a60
 ((offA a1 5).bind fun a61 =>
 (loadA false 1 a61 H51).bind fun a62 =>
 (binA .eql (Go.TypeDesc.int Go.IntKind.i64) (cmpT Try.prog) false a58 a62).bind fun a63 =>
 condK a63
 ((nilA a3).bind fun a64 =>
 (offA a64 5).bind fun a65 =>
 (loadA true 4 a65 H51).bind fun a66 =>
 (offA a1 4).bind fun a67 =>
 (loadA false 1 a67 H51).bind fun a68 =>
 (callD (EV C) n_log_Compact [a66, a68] H51).bind fun a69 =>
 (extA a69 0).bind fun a70 =>
 (extA a69 1).bind fun a71 =>
 newK (.agg [(.int .i64 0), (.int .i64 0), .nils, .nils]) H51 fun a72 H72 E72 =>
 drawK (((loadA true 4 a65 H72).bind fun a73 =>
 some a73) = some a66)
 (drawK (((loadA false 1 a67 H72).bind fun a74 =>
 some a74) = some a68)
 (drawK (((callD (EV C) n_log_Compact [a66, a68] H72).bind fun a75 =>
 some a75) = some a69)
 (stoK 4 a72 a70 H72 fun H76 E76 =>
 (binA .eql (Go.TypeDesc.interface #[("Error", 139)]) (cmpT Try.prog) true a71 .nili).bind fun a77 =>
 condK a77
 ((offA a72 3).bind fun a78 =>
 (loadA false 1 a78 H76).bind fun a79 =>
 (offA a50 3).bind fun a80 =>
 stoK 1 a80 a79 H76 fun H81 E81 =>
 raft_stepper_snap_S13 n x0 a1 a3 a50 H81 (E81 ++ (E76 ++ (E72 ++ (E51 ++ (E50 ++ (E47 ++ (E42 ++ (E20 ++ (E1 ++ []))))))))))
 (raft_stepper_snap_S13 n x0 a1 a3 a50 H76 (E76 ++ (E72 ++ (E51 ++ (E50 ++ (E47 ++ (E42 ++ (E20 ++ (E1 ++ [])))))))))))))
 (raft_stepper_snap_S13 n x0 a1 a3 a50 H51 (E51 ++ (E50 ++ (E47 ++ (E42 ++ (E20 ++ (E1 ++ []))))))))
 (raft_stepper_snap_S13 n x0 a1 a3 a50 H51 (E51 ++ (E50 ++ (E47 ++ (E42 ++ (E20 ++ (E1 ++ []))))))))))))))))) (List.length H) = some r) : EV C n_raft_stepper_snap [x0, x1] H = some r :=
 EV_of_fnK' (fn := Try.f65) (by kernel_rfl) (by kernel_rfl) (by kernel_rfl) hh
theorem raft_stepper_ack_of {r : R3} {x0 x1 : AV} {H : List AObj} (hh : (fun n => (
 newK x1 H fun a1 H1 E1 =>
 (nilA x0).bind fun a2 =>
 (offA a2 0).bind fun a3 =>
 (offA a1 7).bind fun a4 =>
 (loadA false 1 a4 H1).bind fun a5 =>
 (unA .not a5).bind fun a6 =>
 condK a6
 ((offA a1 1).bind fun a7 =>
 (loadA false 1 a7 H1).bind fun a8 =>
 (offA a1 4).bind fun a9 =>
 (loadA false 1 a9 H1).bind fun a10 =>
 (binA .add (Go.TypeDesc.int Go.IntKind.i64) (cmpT Try.prog) true a10 (.int .i64 1)).bind fun a11 =>
 (offA a1 1).bind fun a12 =>
 (loadA false 1 a12 H1).bind fun a13 =>
 (nilA a3).bind fun a14 =>
 (offA a14 11).bind fun a15 =>
 (arA 8 1 a15 a13).bind fun a16 =>
 (loadA false 1 a16 H1).bind fun a17 =>
 (binA .sub (Go.TypeDesc.int Go.IntKind.i64) (cmpT Try.prog) true a17 (.int .i64 1)).bind fun a18 =>
 (minA [a11, a18]).bind fun a19 =>
 (offA a1 1).bind fun a20 =>
 (loadA false 1 a20 H1).bind fun a21 =>
 (nilA a3).bind fun a22 =>
 (offA a22 19).bind fun a23 =>
 (arA 8 1 a23 a21).bind fun a24 =>
 (loadA false 1 a24 H1).bind fun a25 =>
 (binA .add (Go.TypeDesc.int Go.IntKind.i64) (cmpT Try.prog) true a25 (.int .i64 1)).bind fun a26 =>
 (maxA [a19, a26]).bind fun a27 =>
 (minA [a27, (.int .i64 1152921504606846976)]).bind fun a28 =>
 (nilA a3).bind fun a29 =>
 (offA a29 11).bind fun a30 =>
 (arA 8 1 a30 a8).bind fun a31 =>
 stoK 1 a31 a28 H1 fun H32 E32 =>
 (offA a1 1).bind fun a33 =>
 (loadA false 1 a33 H32).bind fun a34 =>
 callK (EV C) false n_raft_stepper_bring [x0, a34] H32 fun a35 H35 E35 =>
 endB false false n (.tup []) H35 (E35 ++ (E32 ++ (E1 ++ []))))
 ((offA a1 4).bind fun a36 =>
 (loadA false 1 a36 H1).bind fun a37 =>
 callK (EV C) false n_raft_stepper_last [x0] H1 fun a38 H38 E38 =>
 drawK (((loadA false 1 a36 H38).bind fun a39 =>
 some a39) = some a37)
 ((binA .gtr (Go.TypeDesc.int Go.IntKind.i64) (cmpT Try.prog) false a37 a38).bind fun a40 =>
 condK a40
 (endB false false n (.tup []) H38 (E38 ++ (E1 ++ [])))
 ((offA a1 1).bind fun a41 =>
 (loadA false 1 a41 H38).bind fun a42 =>
 (offA a1 1).bind fun a43 =>
 (loadA false 1 a43 H38).bind fun a44 =>
 (nilA a3).bind fun a45 =>
 (offA a45 19).bind fun a46 =>
 (arA 8 1 a46 a44).bind fun a47 =>
 (loadA false 1 a47 H38).bind fun a48 =>
 (offA a1 4).bind fun a49 =>
 (loadA false 1 a49 H38).bind fun a50 =>
 (maxA [a48, a50]).bind fun a51 =>
 (nilA a3).bind fun a52 =>
 (offA a52 19).bind fun a53 =>
 (arA 8 1 a53 a42).bind fun a54 =>
 stoK 1 a54 a51 H38 fun H55 E55 =>
 (offA a1 1).bind fun a56 =>
 (loadA false 1 a56 H55).bind fun a57 =>
 (offA a1 1).bind fun a58 =>
 (loadA false 1 a58 H55).bind fun a59 =>
 (nilA a3).bind fun a60 =>
 (offA a60 19).bind fun a61 =>
 (arA 8 1 a61 a59).bind fun a62 =>
 (loadA false 1 a62 H55).bind fun a63 =>
 (binA .add (Go.TypeDesc.int Go.IntKind.i64) (cmpT Try.prog) true a63 (.int .i64 1)).bind fun a64 =>
 (minA [a64, (.int .i64 1152921504606846976)]).bind fun a65 =>
 (nilA a3).bind fun a66 =>
 (offA a66 11).bind fun a67 =>
 (arA 8 1 a67 a57).bind fun a68 =>
 stoK 1 a68 a65 H55 fun H69 E69 =>
 callK (EV C) false n_raft_stepper_counts [x0] H69 fun a70 H70 E70 =>
 (nilA a3).bind fun a71 =>
 (offA a71 3).bind fun a72 =>
 (loadA false 1 a72 H70).bind fun a73 =>
 (binA .eql (Go.TypeDesc.int Go.IntKind.i64) (cmpT Try.prog) true a73 (.int .i64 2)).bind fun a74 =>
 splitK a74
 ((offA a1 1).bind fun a75 =>
 (loadA false 1 a75 H70).bind fun a76 =>
 (nilA a3).bind fun a77 =>
 (offA a77 11).bind fun a78 =>
 (arA 8 1 a78 a76).bind fun a79 =>
 (loadA false 1 a79 H70).bind fun a80 =>
 callK (EV C) false n_raft_stepper_last [x0] H70 fun a81 H81 E81 =>
 drawK (((loadA false 1 a75 H81).bind fun a82 =>
 some a82) = some a76)
 (drawK (((arA 8 1 a78 a76).bind fun a83 =>
 some a83) = some a79)
 (drawK (((loadA false 1 a79 H81).bind fun a84 =>
 some a84) = some a80)
 ((binA .leq (Go.TypeDesc.int Go.IntKind.i64) (cmpT Try.prog) false a80 a81).bind fun a85 =>
 condK a85
 ((offA a1 1).bind fun a86 =>
 (loadA false 1 a86 H81).bind fun a87 =>
 callK (EV C) false n_raft_stepper_bring [x0, a87] H81 fun a88 H88 E88 =>
 endB false false n (.tup []) H88 (E88 ++ (E81 ++ (E70 ++ (E69 ++ (E55 ++ (E38 ++ (E1 ++ []))))))))
 (endB false false n (.tup []) H81 (E81 ++ (E70 ++ (E69 ++ (E55 ++ (E38 ++ (E1 ++ [])))))))))))
 (endB false false n (.tup []) H70 (E70 ++ (E69 ++ (E55 ++ (E38 ++ (E1 ++ []))))))))))) (List.length H) = some r) : EV C n_raft_stepper_ack [x0, x1] H = some r :=
 EV_of_fnK' (fn := Try.f66) (by kernel_rfl) (by kernel_rfl) (by kernel_rfl) hh
theorem raft_stepper_add_of {r : R3} {x0 x1 x2 : AV} {H : List AObj} (hh : (fun n => (
 callK (EV C) false n_raft_stepper_last [x0] H fun a1 H1 E1 =>
 (binA .geq (Go.TypeDesc.int Go.IntKind.i64) (cmpT Try.prog) true a1 (.int .i64 1152921504606846976)).bind fun a2 =>
 condK a2
 (endB false false n (.tup []) H1 (E1 ++ []))
 ((nilA x0).bind fun a3 =>
 (offA a3 0).bind fun a4 =>
 (offA a4 5).bind fun a5 =>
 (offA a5 3).bind fun a6 =>
 (loadA false 1 a6 H1).bind fun a7 =>
 callK (EV C) true n_Clone_api_Entry_r [a7] H1 fun a8 H8 E8 =>
 (nilA x0).bind fun a9 =>
 (offA a9 0).bind fun a10 =>
 (offA a10 1).bind fun a11 =>
 (loadA false 1 a11 H8).bind fun a12 =>
 drawK (((loadA false 1 a11 H1).bind fun a13 =>
 some a13) = some a12)
 ((callD (EV C) n_Clone_byte [x2] H8).bind fun a14 =>
 (fillB (AV.cells (.agg [(.int .i64 0), (.int .i64 0), .nils])) [(0, 1, a12), (1, 1, x1), (2, 1, a14)]).bind fun c15 =>
 (litD 3 1 (.agg [(.int .i64 0), (.int .i64 0), .nils]) [(0, (.agg c15))] H8).bind fun a16 =>
 appK 3 40 a8 a16 H8 fun a17 H17 E17 =>
 frzK a17 H17 fun a18 H18 =>
 (nilA x0).bind fun a19 =>
 (offA a19 0).bind fun a20 =>
 (offA a20 5).bind fun a21 =>
 (offA a21 3).bind fun a22 =>
 stoK 1 a22 a18 H18 fun H23 E23 =>
 endB false false n (.tup []) H23 (E23 ++ (E17 ++ (E8 ++ (E1 ++ [])))))))) (List.length H) = some r) : EV C n_raft_stepper_add [x0, x1, x2] H = some r :=
 EV_of_fnK' (fn := Try.f67) (by kernel_rfl) (by kernel_rfl) (by kernel_rfl) hh
noncomputable def raft_stepper_counts_J4 (n : Nat) (t0 t2 t3 t4 : AV) (H : List AObj) (E : List Nat) : Option R3 :=
 loopK Try.prog C.G (EV C) (C.hint 68) Try.f68 (cAt (bodyOf Try.f68) [1, 1, 1, 0, 1, 0, 0]) (kAt Try.prog C.G (EV C) (C.hint 68) Try.f68 (bodyOf Try.f68) [1, 1, 1, 0, 1, 0] [] (endK Try.prog (C.hint 68) Try.f68 n))
 ⟨pat 95 [(0, t0), (2, t2), (3, t3), (4, t4)], H, E⟩
noncomputable def raft_stepper_counts_J10 (n : Nat) (Ha : List AObj) (Ea : List Nat) (t0 t2 t3 t4 t7 t57 t58 : AV) (H : List AObj) (E : List Nat) : Option R3 :=
 loopK Try.prog C.G (EV C) (C.hint 68) Try.f68 (cAt (bodyOf Try.f68) [1, 1, 1, 0, 1, 0, 0, 1, 0, 0, 1, 1, 1, 0, 1, 0, 0]) (kAt Try.prog C.G (EV C) (C.hint 68) Try.f68 (bodyOf Try.f68) [1, 1, 1, 0, 1, 0, 0, 1, 0, 0, 1, 1, 1, 0, 1, 0] [(Ha, Ea)] (endK Try.prog (C.hint 68) Try.f68 n))
 ⟨pat 95 [(0, t0), (2, t2), (3, t3), (4, t4), (7, t7), (57, t57), (58, t58)], H, E⟩
theorem raft_stepper_counts_J4_of {r : R3} {n : Nat} {t0 t2 t3 t4 : AV} {H : List AObj} {E : List Nat} (hh : (
 (nilA t2).bind fun a1 =>
 (offA a1 9).bind fun a2 =>
 (loadA false 1 a2 H).bind fun a3 =>
 (binA .gtr (Go.TypeDesc.int Go.IntKind.i64) (cmpT Try.prog) false t4 a3).bind fun a4 =>
 condK a4
 ((nilA t2).bind fun a5 =>
 (offA a5 5).bind fun a6 =>
 (loadA true 4 a6 H).bind fun a7 =>
 callK (EV C) false n_log_Term [a7, t4] H fun a8 H8 E8 =>
 (extA a8 0).bind fun a9 =>
 (extA a8 1).bind fun a10 =>
 (binA .neq (Go.TypeDesc.interface #[("Error", 139)]) (cmpT Try.prog) true a10 .nili).bind fun a11 =>
 splitK a11
 ((nilA t2).bind fun a12 =>
 (offA a12 0).bind fun a13 =>
 (loadA false 1 a13 H8).bind fun a14 =>
 callK (EV C) false n_conf_Has [t3, a14] H8 fun a15 H15 E15 =>
 (unA .not a15).bind fun a16 =>
 splitK a16
 (callK (EV C) false n_raft_stepper_pending [t0] H15 fun a17 H17 E17 =>
 (unA .not a17).bind fun a18 =>
 condK a18
 ((nilA t2).bind fun a19 =>
 (offA a19 3).bind fun a20 =>
 stoK 1 a20 (.int .i64 0) H17 fun H21 E21 =>
 (nilA t2).bind fun a22 =>
 (offA a22 4).bind fun a23 =>
 stoK 1 a23 (.int .i64 0) H21 fun H24 E24 =>
 endB false false n (.tup []) H24 (E24 ++ (E21 ++ (E17 ++ (E15 ++ ((E8 ++ []) ++ E))))))
 (endB false false n (.tup []) H17 (E17 ++ (E15 ++ ((E8 ++ []) ++ E)))))
 (endB false false n (.tup []) H15 (E15 ++ ((E8 ++ []) ++ E))))
 ((nilA t2).bind fun a25 =>
 (offA a25 1).bind fun a26 =>
 (loadA false 1 a26 H8).bind fun a27 =>
 (binA .neq (Go.TypeDesc.int Go.IntKind.i64) (cmpT Try.prog) false a9 a27).bind fun a28 =>
 condK a28
 ((nilA t2).bind fun a29 =>
 (offA a29 0).bind fun a30 =>
 (loadA false 1 a30 H8).bind fun a31 =>
 callK (EV C) false n_conf_Has [t3, a31] H8 fun a32 H32 E32 =>
 (unA .not a32).bind fun a33 =>
 splitK a33
 (callK (EV C) false n_raft_stepper_pending [t0] H32 fun a34 H34 E34 =>
 (unA .not a34).bind fun a35 =>
 condK a35
 ((nilA t2).bind fun a36 =>
 (offA a36 3).bind fun a37 =>
 stoK 1 a37 (.int .i64 0) H34 fun H38 E38 =>
 (nilA t2).bind fun a39 =>
 (offA a39 4).bind fun a40 =>
 stoK 1 a40 (.int .i64 0) H38 fun H41 E41 =>
 endB false false n (.tup []) H41 (E41 ++ (E38 ++ (E34 ++ (E32 ++ ((E8 ++ []) ++ E))))))
 (endB false false n (.tup []) H34 (E34 ++ (E32 ++ ((E8 ++ []) ++ E)))))
 (endB false false n (.tup []) H32 (E32 ++ ((E8 ++ []) ++ E))))
 ((nilA t2).bind fun a42 =>
 (offA a42 19).bind fun a43 =>
 (loadA true 8 a43 (H8 ++ [.vrow])).bind fun a44 =>
 raft_stepper_counts_J10 n H E t0 t2 t3 t4 (.slc (List.length H8) 0 0 0) a44 (.int .i64 0) (H8 ++ [.vrow]) (E8 ++ []))))
 ((nilA t2).bind fun a45 =>
 (offA a45 0).bind fun a46 =>
 (loadA false 1 a46 H).bind fun a47 =>
 callK (EV C) false n_conf_Has [t3, a47] H fun a48 H48 E48 =>
 (unA .not a48).bind fun a49 =>
 splitK a49
 (callK (EV C) false n_raft_stepper_pending [t0] H48 fun a50 H50 E50 =>
 (unA .not a50).bind fun a51 =>
 condK a51
 ((nilA t2).bind fun a52 =>
 (offA a52 3).bind fun a53 =>
 stoK 1 a53 (.int .i64 0) H50 fun H54 E54 =>
 (nilA t2).bind fun a55 =>
 (offA a55 4).bind fun a56 =>
 stoK 1 a56 (.int .i64 0) H54 fun H57 E57 =>
 endB false false n (.tup []) H57 (E57 ++ (E54 ++ (E50 ++ (E48 ++ E)))))
 (endB false false n (.tup []) H50 (E50 ++ (E48 ++ E))))
 (endB false false n (.tup []) H48 (E48 ++ E)))) = some r) : raft_stepper_counts_J4 n t0 t2 t3 t4 H E = some r :=
 loop_step' (by kernel_rfl) hh
theorem raft_stepper_counts_J10_of {r : R3} {n : Nat} {Ha : List AObj} {Ea : List Nat} {t0 t2 t3 t4 t7 t57 t58 : AV} {H : List AObj} {E : List Nat} (hh : (
 (binA .lss (Go.TypeDesc.int Go.IntKind.i64) (cmpT Try.prog) true t58 (.int .i64 8)).bind fun a1 =>
 condK a1
 ((ixV 8 false 1 t57 t58).bind fun a2 =>
 (binA .geq (Go.TypeDesc.int Go.IntKind.i64) (cmpT Try.prog) false a2 t4).bind fun a3 =>
 condK a3
 (litK 1 1 (.int .i64 0) [(0, t58)] H fun a4 H4 E4 =>
 appK 1 8 t7 a4 H4 fun a5 H5 E5 =>
 (binA .add (Go.TypeDesc.int Go.IntKind.i64) (cmpT Try.prog) true t58 (.int .i64 1)).bind fun a6 =>
 raft_stepper_counts_J10 n Ha Ea t0 t2 t3 t4 a5 t57 a6 H5 ((E5 ++ (E4 ++ [])) ++ E))
 ((binA .add (Go.TypeDesc.int Go.IntKind.i64) (cmpT Try.prog) true t58 (.int .i64 1)).bind fun a7 =>
 raft_stepper_counts_J10 n Ha Ea t0 t2 t3 t4 t7 t57 a7 H E))
 (callK (EV C) false n_conf_Most [t3, t7] H fun a8 H8 E8 =>
 condK a8
 ((nilA t2).bind fun a9 =>
 (offA a9 9).bind fun a10 =>
 stoK 1 a10 t4 H8 fun H11 E11 =>
 (nilA t2).bind fun a12 =>
 (offA a12 0).bind fun a13 =>
 (loadA false 1 a13 H11).bind fun a14 =>
 callK (EV C) false n_conf_Has [t3, a14] H11 fun a15 H15 E15 =>
 (unA .not a15).bind fun a16 =>
 splitK a16
 (callK (EV C) false n_raft_stepper_pending [t0] H15 fun a17 H17 E17 =>
 (unA .not a17).bind fun a18 =>
 condK a18
 ((nilA t2).bind fun a19 =>
 (offA a19 3).bind fun a20 =>
 stoK 1 a20 (.int .i64 0) H17 fun H21 E21 =>
 (nilA t2).bind fun a22 =>
 (offA a22 4).bind fun a23 =>
 stoK 1 a23 (.int .i64 0) H21 fun H24 E24 =>
 endB false false n (.tup []) H24 (E24 ++ (E21 ++ (E17 ++ (E15 ++ ((E11 ++ (E8 ++ E)) ++ Ea))))))
 (endB false false n (.tup []) H17 (E17 ++ (E15 ++ ((E11 ++ (E8 ++ E)) ++ Ea)))))
 (endB false false n (.tup []) H15 (E15 ++ ((E11 ++ (E8 ++ E)) ++ Ea))))
 ((binA .sub (Go.TypeDesc.int Go.IntKind.i64) (cmpT Try.prog) true t4 (.int .i64 1)).bind fun a25 =>
 condB (List.all (E8 ++ E) (fun e => decide (List.length Ha ≤ e)) && (AV.bel (List.length Ha) t0 && (AV.bel (List.length Ha) t2 && (AV.bel (List.length Ha) t3 && (AV.bel (List.length Ha) a25 && true)))))
 (raft_stepper_counts_J4 n t0 t2 t3 a25 (List.take (List.length Ha) H8) Ea)))) = some r) : raft_stepper_counts_J10 n Ha Ea t0 t2 t3 t4 t7 t57 t58 H E = some r :=
 loop_step' (by kernel_rfl) hh
theorem raft_stepper_counts_of {r : R3} {x0 : AV} {H : List AObj} (hh : (fun n => (
 (nilA x0).bind fun a1 =>
 (offA a1 0).bind fun a2 =>
 (nilA a2).bind fun a3 =>
 (offA a3 0).bind fun a4 =>
 (loadA false 1 a4 H).bind fun a5 =>
 callK (EV C) false n_raft_stepper_last [x0] H fun a6 H6 E6 =>
 drawK (((loadA false 1 a4 H6).bind fun a7 =>
 some a7) = some a5)
 ((nilA a2).bind fun a8 =>
 (offA a8 19).bind fun a9 =>
 (arA 8 1 a9 a5).bind fun a10 =>
 stoK 1 a10 a6 H6 fun H11 E11 =>
 callK (EV C) false n_raft_stepper_members [x0] H11 fun a12 H12 E12 =>
 callK (EV C) false n_raft_stepper_last [x0] H12 fun a13 H13 E13 =>
 raft_stepper_counts_J4 n x0 a2 a12 a13 H13 (E13 ++ (E12 ++ (E11 ++ (E6 ++ []))))))) (List.length H) = some r) : EV C n_raft_stepper_counts [x0] H = some r :=
 EV_of_fnK' (fn := Try.f68) (by kernel_rfl) (by kernel_rfl) (by kernel_rfl) hh
theorem log_Term_of {r : R3} {x0 x1 : AV} {H : List AObj} (hh : (fun n => (
 newK x0 H fun a1 H1 E1 =>
 (loadA true 4 a1 H1).bind fun a2 =>
 callK (EV C) false n_log_asked [a2, x1] H1 fun a3 H3 E3 =>
 (binA .neq (Go.TypeDesc.interface #[("Error", 139)]) (cmpT Try.prog) true a3 .nili).bind fun a4 =>
 condK a4
 (endB false false n (.tup [(.int .i64 0), a3]) H3 (E3 ++ (E1 ++ [])))
 ((loadA true 4 a1 H3).bind fun a5 =>
 callK (EV C) false n_log_term [a5, x1] H3 fun a6 H6 E6 =>
 endB false false n (.tup [a6, .nili]) H6 (E6 ++ (E3 ++ (E1 ++ [])))))) (List.length H) = some r) : EV C n_log_Term [x0, x1] H = some r :=
 EV_of_fnK' (fn := Try.f69) (by kernel_rfl) (by kernel_rfl) (by kernel_rfl) hh
theorem conf_Step_of {r : R3} {x0 x1 : AV} {H : List AObj} (hh : (fun n => (
 newK x1 H fun a1 H1 E1 =>
 (lenV x0 H1).bind fun a2 =>
 (loadA false 1 a1 H1).bind fun a3 =>
 (lenV a3 H1).bind fun a4 =>
 (binA .gtr (Go.TypeDesc.int Go.IntKind.i64) (cmpT Try.prog) false a2 a4).bind fun a5 =>
 condK a5
 ((loadA false 1 a1 H1).bind fun a6 =>
 stoK 1 a1 x0 H1 fun H7 E7 =>
 callK (EV C) false n_conf_May [a6] H7 fun a8 H8 E8 =>
 splitK a8
 ((loadA false 1 a1 H8).bind fun a9 =>
 callK (EV C) false n_conf_May [a9] H8 fun a10 H10 E10 =>
 splitK a10
 ((loadA false 1 a1 H10).bind fun a11 =>
 (lenV a11 H10).bind fun a12 =>
 (lenV a6 H10).bind fun a13 =>
 (binA .add (Go.TypeDesc.int Go.IntKind.i64) (cmpT Try.prog) true a13 (.int .i64 1)).bind fun a14 =>
 (binA .eql (Go.TypeDesc.int Go.IntKind.i64) (cmpT Try.prog) false a12 a14).bind fun a15 =>
 splitK a15
 (callK (EV C) false n_ContainsFunc_int [a6, (.clo n_conf_Step_1 [] [a1])] H10 fun a16 H16 E16 =>
 (unA .not a16).bind fun a17 =>
 endB false false n a17 H16 (E16 ++ (E10 ++ (E8 ++ (E7 ++ (E1 ++ []))))))
 (endB false false n (.bool false) H10 (E10 ++ (E8 ++ (E7 ++ (E1 ++ []))))))
 (endB false false n (.bool false) H10 (E10 ++ (E8 ++ (E7 ++ (E1 ++ []))))))
 (endB false false n (.bool false) H8 (E8 ++ (E7 ++ (E1 ++ [])))))
 (callK (EV C) false n_conf_May [x0] H1 fun a18 H18 E18 =>
 splitK a18
 ((loadA false 1 a1 H18).bind fun a19 =>
 callK (EV C) false n_conf_May [a19] H18 fun a20 H20 E20 =>
 splitK a20
 ((loadA false 1 a1 H20).bind fun a21 =>
 (lenV a21 H20).bind fun a22 =>
 (lenV x0 H20).bind fun a23 =>
 (binA .add (Go.TypeDesc.int Go.IntKind.i64) (cmpT Try.prog) true a23 (.int .i64 1)).bind fun a24 =>
 (binA .eql (Go.TypeDesc.int Go.IntKind.i64) (cmpT Try.prog) false a22 a24).bind fun a25 =>
 splitK a25
 (callK (EV C) false n_ContainsFunc_int [x0, (.clo n_conf_Step_1 [] [a1])] H20 fun a26 H26 E26 =>
 (unA .not a26).bind fun a27 =>
 endB false false n a27 H26 (E26 ++ (E20 ++ (E18 ++ (E1 ++ [])))))
 (endB false false n (.bool false) H20 (E20 ++ (E18 ++ (E1 ++ [])))))
 (endB false false n (.bool false) H20 (E20 ++ (E18 ++ (E1 ++ [])))))
 (endB false false n (.bool false) H18 (E18 ++ (E1 ++ [])))))) (List.length H) = some r) : EV C n_conf_Step [x0, x1] H = some r :=
 EV_of_fnK' (fn := Try.f70) (by kernel_rfl) (by kernel_rfl) (by kernel_rfl) hh
theorem raft_stepper_pending_of {r : R3} {x0 : AV} {H : List AObj} (hh : (fun n => (
 (nilA x0).bind fun a1 =>
 (offA a1 0).bind fun a2 =>
 (offA a2 5).bind fun a3 =>
 (loadA true 4 a3 H).bind fun a4 =>
 (nilA x0).bind fun a5 =>
 (offA a5 0).bind fun a6 =>
 (offA a6 9).bind fun a7 =>
 (loadA false 1 a7 H).bind fun a8 =>
 (binA .add (Go.TypeDesc.int Go.IntKind.i64) (cmpT Try.prog) true a8 (.int .i64 1)).bind fun a9 =>
 callK (EV C) false n_raft_stepper_last [x0] H fun a10 H10 E10 =>
 drawK (((loadA true 4 a3 H10).bind fun a11 =>
 some a11) = some a4)
 (drawK (((loadA false 1 a7 H10).bind fun a12 =>
 some a12) = some a8)
 ((callD (EV C) n_log_Slice [a4, a9, a10] H10).bind fun a13 =>
 callK (EV C) false n_ContainsFunc_api_Entry [a13, (.clo n_raft_stepper_pending_1 [] [])] H10 fun a14 H14 E14 =>
 endB false false n a14 H14 (E14 ++ (E10 ++ [])))))) (List.length H) = some r) : EV C n_raft_stepper_pending [x0] H = some r :=
 EV_of_fnK' (fn := Try.f71) (by kernel_rfl) (by kernel_rfl) (by kernel_rfl) hh
noncomputable def conf_Bytes_J5 (n : Nat) (t4 t11 t12 t13 : AV) (H : List AObj) (E : List Nat) : Option R3 :=
 loopK Try.prog C.G (EV C) (C.hint 72) Try.f72 (cAt (bodyOf Try.f72) [1, 1, 1, 0, 1, 0, 0]) (kAt Try.prog C.G (EV C) (C.hint 72) Try.f72 (bodyOf Try.f72) [1, 1, 1, 0, 1, 0] [] (endK Try.prog (C.hint 72) Try.f72 n))
 ⟨pat 24 [(4, t4), (11, t11), (12, t12), (13, t13)], H, E⟩
theorem conf_Bytes_J5_of {r : R3} {n : Nat} {t4 t11 t12 t13 : AV} {H : List AObj} {E : List Nat} (hh : (
 (binA .lss (Go.TypeDesc.int Go.IntKind.i64) (cmpT Try.prog) false t13 t12).bind fun a1 =>
 condK a1
 ((ixA 1 t11 t13 H).bind fun a2 =>
 (loadA false 1 a2 H).bind fun a3 =>
 (cvI .u8 a3).bind fun a4 =>
 litK 1 1 (.int .u8 0) [(0, a4)] H fun a5 H5 E5 =>
 appK 1 1 t4 a5 H5 fun a6 H6 E6 =>
 (binA .add (Go.TypeDesc.int Go.IntKind.i64) (cmpT Try.prog) true t13 (.int .i64 1)).bind fun a7 =>
 conf_Bytes_J5 n a6 t11 t12 a7 H6 ((E6 ++ (E5 ++ [])) ++ E))
 (endB false false n (.tup [t4, .nili]) H E)) = some r) : conf_Bytes_J5 n t4 t11 t12 t13 H E = some r :=
 loop_step' (by kernel_rfl) hh
theorem conf_Bytes_of {r : R3} {x0 : AV} {H : List AObj} (hh : (fun n => (
 callK (EV C) false n_conf_May [x0] H fun a1 H1 E1 =>
 (unA .not a1).bind fun a2 =>
 condK a2
 (endB false false n (.tup [.nils, (.ifc t_api_Code (.int .i64 1))]) H1 (E1 ++ []))
 ((lenV x0 (H1 ++ [.vrow])).bind fun a3 =>
 conf_Bytes_J5 n (.slc (List.length H1) 0 0 0) x0 a3 (.int .i64 0) (H1 ++ [.vrow]) (E1 ++ [])))) (List.length H) = some r) : EV C n_conf_Bytes [x0] H = some r :=
 EV_of_fnK' (fn := Try.f72) (by kernel_rfl) (by kernel_rfl) (by kernel_rfl) hh
theorem log_asked_of {r : R3} {x0 x1 : AV} {H : List AObj} (hh : (fun n => (
 newK x0 H fun a1 H1 E1 =>
 (loadA true 4 a1 H1).bind fun a2 =>
 callK (EV C) false n_log_Check [a2] H1 fun a3 H3 E3 =>
 (binA .neq (Go.TypeDesc.interface #[("Error", 139)]) (cmpT Try.prog) true a3 .nili).bind fun a4 =>
 condK a4
 (endB false false n a3 H3 (E3 ++ (E1 ++ [])))
 ((loadA true 4 a1 H3).bind fun a5 =>
 callK (EV C) false n_log_has [a5, x1] H3 fun a6 H6 E6 =>
 (unA .not a6).bind fun a7 =>
 condK a7
 (endB false false n (.ifc t_api_Code (.int .i64 9)) H6 (E6 ++ (E3 ++ (E1 ++ []))))
 (endB false false n .nili H6 (E6 ++ (E3 ++ (E1 ++ []))))))) (List.length H) = some r) : EV C n_log_asked [x0, x1] H = some r :=
 EV_of_fnK' (fn := Try.f73) (by kernel_rfl) (by kernel_rfl) (by kernel_rfl) hh
theorem log_term_of {r : R3} {x0 x1 : AV} {H : List AObj} (hh : (fun n => (
 newK x0 H fun a1 H1 E1 =>
 (offA a1 0).bind fun a2 =>
 (offA a2 0).bind fun a3 =>
 (loadA false 1 a3 H1).bind fun a4 =>
 (binA .eql (Go.TypeDesc.int Go.IntKind.i64) (cmpT Try.prog) false x1 a4).bind fun a5 =>
 condK a5
 ((offA a1 0).bind fun a6 =>
 (offA a6 1).bind fun a7 =>
 (loadA false 1 a7 H1).bind fun a8 =>
 endB false false n a8 H1 (E1 ++ []))
 ((offA a1 3).bind fun a9 =>
 (loadA false 1 a9 H1).bind fun a10 =>
 (offA a1 0).bind fun a11 =>
 (offA a11 0).bind fun a12 =>
 (loadA false 1 a12 H1).bind fun a13 =>
 (binA .sub (Go.TypeDesc.int Go.IntKind.i64) (cmpT Try.prog) false x1 a13).bind fun a14 =>
 (binA .sub (Go.TypeDesc.int Go.IntKind.i64) (cmpT Try.prog) true a14 (.int .i64 1)).bind fun a15 =>
 (ixA 3 a10 a15 H1).bind fun a16 =>
 (offA a16 0).bind fun a17 =>
 (loadA false 1 a17 H1).bind fun a18 =>
 endB false false n a18 H1 (E1 ++ [])))) (List.length H) = some r) : EV C n_log_term [x0, x1] H = some r :=
 EV_of_fnK' (fn := Try.f74) (by kernel_rfl) (by kernel_rfl) (by kernel_rfl) hh
end Go.Pm
