/- A part of the proof: what the functions of the program answer, as plain lists and numbers. -/
import Derived.Test.YtndkpoacbheemaaP8
namespace Go.Pm
open Go.Proofs
set_option linter.unusedVariables false
set_option maxRecDepth 100000
theorem ref18_Term_of {r : R3} {x0 x1 : AV} {H : List AObj} (hh : (fun n => (
 newK x0 H fun a1 H1 E1 =>
 (offA a1 0).bind fun a2 =>
 (offA a2 0).bind fun a3 =>
 (loadA false 1 a3 H1).bind fun a4 =>
 (binA .sub (Go.TypeDesc.int Go.IntKind.i64) (cmpT Try.prog) false x1 a4).bind fun a5 =>
 (binA .eql (Go.TypeDesc.int Go.IntKind.i64) (cmpT Try.prog) true a5 (.int .i64 0)).bind fun a6 =>
 condK a6
 ((offA a1 0).bind fun a7 =>
 (offA a7 1).bind fun a8 =>
 (loadA false 1 a8 H1).bind fun a9 =>
 endB false false n a9 H1 (E1 ++ []))
 ((offA a1 3).bind fun a10 =>
 (loadA false 1 a10 H1).bind fun a11 =>
 (binA .sub (Go.TypeDesc.int Go.IntKind.i64) (cmpT Try.prog) true a5 (.int .i64 1)).bind fun a12 =>
 (ixA 3 a11 a12 H1).bind fun a13 =>
 (offA a13 0).bind fun a14 =>
 (loadA false 1 a14 H1).bind fun a15 =>
 endB false false n a15 H1 (E1 ++ [])))) (List.length H) = some r) : EV C n_ref18_Term [x0, x1] H = some r :=
 EV_of_fnK' (fn := Try.f16) (by kernel_rfl) (by kernel_rfl) (by kernel_rfl) hh
theorem raft_timeout_of {r : R3} {x0 : AV} {H : List AObj} (hh : (fun n => (
 (binA .rem (Go.TypeDesc.int Go.IntKind.i64) (cmpT Try.prog) true x0 (.int .i64 10)).bind fun a1 =>
 (binA .lss (Go.TypeDesc.int Go.IntKind.i64) (cmpT Try.prog) true a1 (.int .i64 0)).bind fun a2 =>
 condK a2
 ((binA .add (Go.TypeDesc.int Go.IntKind.i64) (cmpT Try.prog) true a1 (.int .i64 10)).bind fun a3 =>
 (binA .add (Go.TypeDesc.int Go.IntKind.i64) (cmpT Try.prog) true (.int .i64 10) a3).bind fun a4 =>
 endB false false n a4 H [])
 ((binA .add (Go.TypeDesc.int Go.IntKind.i64) (cmpT Try.prog) true (.int .i64 10) a1).bind fun a5 =>
 endB false false n a5 H []))) (List.length H) = some r) : EV C n_raft_timeout [x0] H = some r :=
 EV_of_fnK' (fn := Try.f29) (by kernel_rfl) (by kernel_rfl) (by kernel_rfl) hh
theorem raft_stepper_tick_of {r : R3} {x0 x1 : AV} {H : List AObj} (hh : (fun n => (
 (nilA x0).bind fun a1 =>
 (offA a1 0).bind fun a2 =>
 (nilA a2).bind fun a3 =>
 (offA a3 27).bind fun a4 =>
 (loadA false 1 a4 H).bind fun a5 =>
 (binA .add (Go.TypeDesc.int Go.IntKind.i64) (cmpT Try.prog) true a5 (.int .i64 1)).bind fun a6 =>
 (minA [a6, (.int .i64 1152921504606846976)]).bind fun a7 =>
 (nilA a2).bind fun a8 =>
 (offA a8 27).bind fun a9 =>
 stoK 1 a9 a7 H fun H10 E10 =>
 (nilA a2).bind fun a11 =>
 (offA a11 3).bind fun a12 =>
 (loadA false 1 a12 H10).bind fun a13 =>
 (binA .eql (Go.TypeDesc.int Go.IntKind.i64) (cmpT Try.prog) true a13 (.int .i64 2)).bind fun a14 =>
 condK a14
 ((nilA a2).bind fun a15 =>
 (offA a15 27).bind fun a16 =>
 (loadA false 1 a16 H10).bind fun a17 =>
 (binA .geq (Go.TypeDesc.int Go.IntKind.i64) (cmpT Try.prog) true a17 (.int .i64 2)).bind fun a18 =>
 condK a18
 ((nilA a2).bind fun a19 =>
 (offA a19 27).bind fun a20 =>
 stoK 1 a20 (.int .i64 0) H10 fun H21 E21 =>
 callK (EV C) false n_raft_stepper_others [x0, (.clo n_raft_stepper_bring [x0] [])] H21 fun a22 H22 E22 =>
 endB false false n (.tup []) H22 (E22 ++ (E21 ++ (E10 ++ []))))
 (endB false false n (.tup []) H10 (E10 ++ [])))
 ((nilA a2).bind fun a23 =>
 (offA a23 27).bind fun a24 =>
 (loadA false 1 a24 H10).bind fun a25 =>
 (nilA a2).bind fun a26 =>
 (offA a26 28).bind fun a27 =>
 (loadA false 1 a27 H10).bind fun a28 =>
 (binA .geq (Go.TypeDesc.int Go.IntKind.i64) (cmpT Try.prog) false a25 a28).bind fun a29 =>
 splitK a29
 (callK (EV C) false n_raft_stepper_members [x0] H10 fun a30 H30 E30 =>
 (nilA a2).bind fun a31 =>
 (offA a31 0).bind fun a32 =>
 (loadA false 1 a32 H30).bind fun a33 =>
 drawK (((loadA false 1 a32 H10).bind fun a34 =>
 some a34) = some a33)
 ((callD (EV C) n_conf_Has [a30, a33] H30).bind fun a35 =>
 splitK a35
 ((nilA a2).bind fun a36 =>
 (offA a36 1).bind fun a37 =>
 (loadA false 1 a37 H30).bind fun a38 =>
 (binA .lss (Go.TypeDesc.int Go.IntKind.i64) (cmpT Try.prog) true a38 (.int .i64 1152921504606846976)).bind fun a39 =>
 condK a39
 (callK (EV C) false n_raft_stepper_stands [x0, x1] H30 fun a40 H40 E40 =>
 endB false false n (.tup []) H40 (E40 ++ (E30 ++ (E10 ++ []))))
 (endB false false n (.tup []) H30 (E30 ++ (E10 ++ []))))
 (endB false false n (.tup []) H30 (E30 ++ (E10 ++ [])))))
 (endB false false n (.tup []) H10 (E10 ++ []))))) (List.length H) = some r) : EV C n_raft_stepper_tick [x0, x1] H = some r :=
 EV_of_fnK' (fn := Try.f34) (by kernel_rfl) (by kernel_rfl) (by kernel_rfl) hh
noncomputable def raft_stepper_msg_S5 (n : Nat) (t0 t3 t4 : AV) (H : List AObj) (E : List Nat) : Option R3 :=
 runK Try.prog C.G (EV C) (C.hint 35) Try.f35 (cAt (bodyOf Try.f35) [1, 1, 1, 1]) ⟨pat 178 [(0, t0), (3, t3), (4, t4)], H, E⟩
 (kAt Try.prog C.G (EV C) (C.hint 35) Try.f35 (bodyOf Try.f35) [1, 1, 1, 1] [] (endK Try.prog (C.hint 35) Try.f35 n))
noncomputable def raft_stepper_msg_S19 (n : Nat) (t0 t4 : AV) (H : List AObj) (E : List Nat) : Option R3 :=
 runK Try.prog C.G (EV C) (C.hint 35) Try.f35 (cAt (bodyOf Try.f35) [1, 1, 1, 1, 1, 1, 0, 1, 1, 1, 0, 1, 0, 1]) ⟨pat 178 [(0, t0), (4, t4)], H, E⟩
 (kAt Try.prog C.G (EV C) (C.hint 35) Try.f35 (bodyOf Try.f35) [1, 1, 1, 1, 1, 1, 0, 1, 1, 1, 0, 1, 0, 1] [] (endK Try.prog (C.hint 35) Try.f35 n))
theorem raft_stepper_msg_S5_of {r : R3} {n : Nat} {t0 t3 t4 : AV} {H : List AObj} {E : List Nat} (hh : (
 (offA t3 3).bind fun a1 =>
 (loadA false 1 a1 H).bind fun a2 =>
 (nilA t4).bind fun a3 =>
 (offA a3 1).bind fun a4 =>
 (loadA false 1 a4 H).bind fun a5 =>
 (binA .lss (Go.TypeDesc.int Go.IntKind.i64) (cmpT Try.prog) false a2 a5).bind fun a6 =>
 condK a6
 ((offA t3 0).bind fun a7 =>
 (loadA false 1 a7 H).bind fun a8 =>
 (binA .eql (Go.TypeDesc.int Go.IntKind.i64) (cmpT Try.prog) true a8 (.int .i64 1)).bind fun a9 =>
 condK a9
 ((offA t3 1).bind fun a10 =>
 (loadA false 1 a10 H).bind fun a11 =>
 (fillB (AV.cells (.agg [(.int .i64 0), (.int .i64 0), (.int .i64 0), (.int .i64 0), (.int .i64 0), (.int .i64 0), (.int .i64 0), (.bool false), .nils, .nils, (.int .i64 0), .nils, (.int .i64 0), .nils, .nils, .nils, .nils])) [(0, 1, (.int .i64 2))]).bind fun c12 =>
 callK (EV C) false n_raft_stepper_send [t0, a11, (.agg c12)] H fun a13 H13 E13 =>
 endB false false n (.tup []) H13 (E13 ++ E))
 ((binA .eql (Go.TypeDesc.int Go.IntKind.i64) (cmpT Try.prog) true a8 (.int .i64 3)).bind fun a14 =>
 condK a14
 ((offA t3 1).bind fun a15 =>
 (loadA false 1 a15 H).bind fun a16 =>
 callK (EV C) false n_raft_stepper_last [t0] H fun a17 H17 E17 =>
 drawK (((loadA false 1 a15 H17).bind fun a18 =>
 some a18) = some a16)
 ((fillB (AV.cells (.agg [(.int .i64 0), (.int .i64 0), (.int .i64 0), (.int .i64 0), (.int .i64 0), (.int .i64 0), (.int .i64 0), (.bool false), .nils, .nils, (.int .i64 0), .nils, (.int .i64 0), .nils, .nils, .nils, .nils])) [(0, 1, (.int .i64 4)), (4, 1, a17)]).bind fun c19 =>
 callK (EV C) false n_raft_stepper_send [t0, a16, (.agg c19)] H17 fun a20 H20 E20 =>
 endB false false n (.tup []) H20 (E20 ++ (E17 ++ E))))
 ((binA .eql (Go.TypeDesc.int Go.IntKind.i64) (cmpT Try.prog) true a8 (.int .i64 5)).bind fun a21 =>
 condK a21
 ((offA t3 1).bind fun a22 =>
 (loadA false 1 a22 H).bind fun a23 =>
 callK (EV C) false n_raft_stepper_last [t0] H fun a24 H24 E24 =>
 drawK (((loadA false 1 a22 H24).bind fun a25 =>
 some a25) = some a23)
 ((fillB (AV.cells (.agg [(.int .i64 0), (.int .i64 0), (.int .i64 0), (.int .i64 0), (.int .i64 0), (.int .i64 0), (.int .i64 0), (.bool false), .nils, .nils, (.int .i64 0), .nils, (.int .i64 0), .nils, .nils, .nils, .nils])) [(0, 1, (.int .i64 4)), (4, 1, a24)]).bind fun c26 =>
 callK (EV C) false n_raft_stepper_send [t0, a23, (.agg c26)] H24 fun a27 H27 E27 =>
 endB false false n (.tup []) H27 (E27 ++ (E24 ++ E))))
 (endB false false n (.tup []) H E))))
 ((offA t3 0).bind fun a28 =>
 (loadA false 1 a28 H).bind fun a29 =>
 (binA .eql (Go.TypeDesc.int Go.IntKind.i64) (cmpT Try.prog) true a29 (.int .i64 1)).bind fun a30 =>
 condK a30
 ((loadA true 17 t3 H).bind fun a31 =>
 callK (EV C) false n_raft_stepper_ask [t0, a31] H fun a32 H32 E32 =>
 endB false false n (.tup []) H32 (E32 ++ E))
 ((binA .eql (Go.TypeDesc.int Go.IntKind.i64) (cmpT Try.prog) true a29 (.int .i64 2)).bind fun a33 =>
 condK a33
 ((nilA t4).bind fun a34 =>
 (offA a34 3).bind fun a35 =>
 (loadA false 1 a35 H).bind fun a36 =>
 (binA .eql (Go.TypeDesc.int Go.IntKind.i64) (cmpT Try.prog) true a36 (.int .i64 1)).bind fun a37 =>
 splitK a37
 ((offA t3 7).bind fun a38 =>
 (loadA false 1 a38 H).bind fun a39 =>
 condK a39
 ((nilA t4).bind fun a40 =>
 (offA a40 10).bind fun a41 =>
 (loadA false 1 a41 H).bind fun a42 =>
 (offA t3 1).bind fun a43 =>
 (loadA false 1 a43 H).bind fun a44 =>
 (callD (EV C) n_Contains_int [a42, a44] H).bind fun a45 =>
 (unA .not a45).bind fun a46 =>
 condK a46
 ((nilA t4).bind fun a47 =>
 (offA a47 10).bind fun a48 =>
 (loadA false 1 a48 H).bind fun a49 =>
 callK (EV C) true n_Clone_int_r [a49] H fun a50 H50 E50 =>
 (offA t3 1).bind fun a51 =>
 (loadA false 1 a51 H50).bind fun a52 =>
 drawK (((loadA false 1 a51 H).bind fun a53 =>
 some a53) = some a52)
 ((litD 1 1 (.int .i64 0) [(0, a52)] H50).bind fun a54 =>
 drawK (((litD 1 1 (.int .i64 0) [(0, a52)] H).bind fun a55 =>
 some a55) = some a54)
 (appK 1 8 a50 a54 H50 fun a56 H56 E56 =>
 frzK a56 H56 fun a57 H57 =>
 (nilA t4).bind fun a58 =>
 (offA a58 10).bind fun a59 =>
 stoK 1 a59 a57 H57 fun H60 E60 =>
 raft_stepper_msg_S19 n t0 t4 H60 (E60 ++ (E56 ++ (E50 ++ E))))))
 (raft_stepper_msg_S19 n t0 t4 H E))
 (endB false false n (.tup []) H E))
 (endB false false n (.tup []) H E))
 ((binA .eql (Go.TypeDesc.int Go.IntKind.i64) (cmpT Try.prog) true a29 (.int .i64 3)).bind fun a61 =>
 condK a61
 ((loadA true 17 t3 H).bind fun a62 =>
 callK (EV C) false n_raft_stepper_app [t0, a62] H fun a63 H63 E63 =>
 endB false false n (.tup []) H63 (E63 ++ E))
 ((binA .eql (Go.TypeDesc.int Go.IntKind.i64) (cmpT Try.prog) true a29 (.int .i64 5)).bind fun a64 =>
 condK a64
 ((loadA true 17 t3 H).bind fun a65 =>
 callK (EV C) false n_raft_stepper_snap [t0, a65] H fun a66 H66 E66 =>
 endB false false n (.tup []) H66 (E66 ++ E))
 ((binA .eql (Go.TypeDesc.int Go.IntKind.i64) (cmpT Try.prog) true a29 (.int .i64 4)).bind fun a67 =>
 condK a67
 ((nilA t4).bind fun a68 =>
 (offA a68 3).bind fun a69 =>
 (loadA false 1 a69 H).bind fun a70 =>
 (binA .eql (Go.TypeDesc.int Go.IntKind.i64) (cmpT Try.prog) true a70 (.int .i64 2)).bind fun a71 =>
 splitK a71
 (callK (EV C) false n_raft_stepper_members [t0] H fun a72 H72 E72 =>
 (offA t3 1).bind fun a73 =>
 (loadA false 1 a73 H72).bind fun a74 =>
 drawK (((loadA false 1 a73 H).bind fun a75 =>
 some a75) = some a74)
 ((callD (EV C) n_conf_Has [a72, a74] H72).bind fun a76 =>
 condK a76
 ((loadA true 17 t3 H72).bind fun a77 =>
 callK (EV C) false n_raft_stepper_ack [t0, a77] H72 fun a78 H78 E78 =>
 endB false false n (.tup []) H78 (E78 ++ (E72 ++ E)))
 (endB false false n (.tup []) H72 (E72 ++ E))))
 (endB false false n (.tup []) H E))
 (endB false false n (.tup []) H E))))))) = some r) : raft_stepper_msg_S5 n t0 t3 t4 H E = some r :=
 Eq.trans (by kernel_rfl) hh
theorem raft_stepper_msg_S19_of {r : R3} {n : Nat} {t0 t4 : AV} {H : List AObj} {E : List Nat} (hh : (
 callK (EV C) false n_raft_stepper_members [t0] H fun a1 H1 E1 =>
 (nilA t4).bind fun a2 =>
 (offA a2 10).bind fun a3 =>
 (loadA false 1 a3 H1).bind fun a4 =>
 drawK (((loadA false 1 a3 H).bind fun a5 =>
 some a5) = some a4)
 ((callD (EV C) n_conf_Most [a1, a4] H1).bind fun a6 =>
 condK a6
 (callK (EV C) false n_raft_stepper_leads [t0] H1 fun a7 H7 E7 =>
 endB false false n (.tup []) H7 (E7 ++ (E1 ++ E)))
 (endB false false n (.tup []) H1 (E1 ++ E)))) = some r) : raft_stepper_msg_S19 n t0 t4 H E = some r :=
 Eq.trans (by kernel_rfl) hh
theorem raft_stepper_msg_of {r : R3} {x0 x1 : AV} {H : List AObj} (hh : (fun n => (
 newK x1 H fun a1 H1 E1 =>
 (nilA x0).bind fun a2 =>
 (offA a2 0).bind fun a3 =>
 (offA a1 2).bind fun a4 =>
 (loadA false 1 a4 H1).bind fun a5 =>
 (nilA a3).bind fun a6 =>
 (offA a6 0).bind fun a7 =>
 (loadA false 1 a7 H1).bind fun a8 =>
 (binA .neq (Go.TypeDesc.int Go.IntKind.i64) (cmpT Try.prog) false a5 a8).bind fun a9 =>
 splitK a9
 (endB false false n (.tup []) H1 (E1 ++ []))
 ((offA a1 1).bind fun a10 =>
 (loadA false 1 a10 H1).bind fun a11 =>
 (nilA a3).bind fun a12 =>
 (offA a12 0).bind fun a13 =>
 (loadA false 1 a13 H1).bind fun a14 =>
 (binA .eql (Go.TypeDesc.int Go.IntKind.i64) (cmpT Try.prog) false a11 a14).bind fun a15 =>
 splitK a15
 (endB false false n (.tup []) H1 (E1 ++ []))
 ((offA a1 1).bind fun a16 =>
 (loadA false 1 a16 H1).bind fun a17 =>
 (callD (EV C) n_raft_in [a17, (.int .i64 1), (.int .i64 7)] H1).bind fun a18 =>
 (unA .not a18).bind fun a19 =>
 splitK a19
 (endB false false n (.tup []) H1 (E1 ++ []))
 ((offA a1 3).bind fun a20 =>
 (loadA false 1 a20 H1).bind fun a21 =>
 (callD (EV C) n_raft_in [a21, (.int .i64 1), (.int .i64 1152921504606846976)] H1).bind fun a22 =>
 (unA .not a22).bind fun a23 =>
 splitK a23
 (endB false false n (.tup []) H1 (E1 ++ []))
 ((offA a1 4).bind fun a24 =>
 (loadA false 1 a24 H1).bind fun a25 =>
 (callD (EV C) n_raft_in [a25, (.int .i64 0), (.int .i64 1152921504606846976)] H1).bind fun a26 =>
 (unA .not a26).bind fun a27 =>
 splitK a27
 (endB false false n (.tup []) H1 (E1 ++ []))
 ((offA a1 5).bind fun a28 =>
 (loadA false 1 a28 H1).bind fun a29 =>
 (callD (EV C) n_raft_in [a29, (.int .i64 0), (.int .i64 1152921504606846976)] H1).bind fun a30 =>
 (unA .not a30).bind fun a31 =>
 splitK a31
 (endB false false n (.tup []) H1 (E1 ++ []))
 ((offA a1 6).bind fun a32 =>
 (loadA false 1 a32 H1).bind fun a33 =>
 (callD (EV C) n_raft_in [a33, (.int .i64 0), (.int .i64 1152921504606846976)] H1).bind fun a34 =>
 (unA .not a34).bind fun a35 =>
 condK a35
 (endB false false n (.tup []) H1 (E1 ++ []))
 ((offA a1 3).bind fun a36 =>
 (loadA false 1 a36 H1).bind fun a37 =>
 (nilA a3).bind fun a38 =>
 (offA a38 1).bind fun a39 =>
 (loadA false 1 a39 H1).bind fun a40 =>
 (binA .gtr (Go.TypeDesc.int Go.IntKind.i64) (cmpT Try.prog) false a37 a40).bind fun a41 =>
 condK a41
 ((offA a1 3).bind fun a42 =>
 (loadA false 1 a42 H1).bind fun a43 =>
 (nilA a3).bind fun a44 =>
 (offA a44 1).bind fun a45 =>
 stoK 1 a45 a43 H1 fun H46 E46 =>
 (nilA a3).bind fun a47 =>
 (offA a47 2).bind fun a48 =>
 stoK 1 a48 (.int .i64 0) H46 fun H49 E49 =>
 (nilA a3).bind fun a50 =>
 (offA a50 4).bind fun a51 =>
 stoK 1 a51 (.int .i64 0) H49 fun H52 E52 =>
 (nilA a3).bind fun a53 =>
 (offA a53 3).bind fun a54 =>
 stoK 1 a54 (.int .i64 0) H52 fun H55 E55 =>
 (nilA a3).bind fun a56 =>
 (offA a56 10).bind fun a57 =>
 stoK 1 a57 .nils H55 fun H58 E58 =>
 raft_stepper_msg_S5 n x0 a1 a3 H58 (E58 ++ (E55 ++ (E52 ++ (E49 ++ (E46 ++ (E1 ++ [])))))))
 (raft_stepper_msg_S5 n x0 a1 a3 H1 (E1 ++ []))))))))))) (List.length H) = some r) : EV C n_raft_stepper_msg [x0, x1] H = some r :=
 EV_of_fnK' (fn := Try.f35) (by kernel_rfl) (by kernel_rfl) (by kernel_rfl) hh
end Go.Pm
