/- A part of the proof: what the functions of the program answer, as plain lists and numbers. -/
import Derived.Test.YtndkpoacbheemaaP8
namespace Go.Pm
open Go.Proofs
set_option linter.unusedVariables false
set_option maxRecDepth 100000
theorem raft_stepper_last_of {r : R3} {x0 : AV} {H : List AObj} (hh : (fun n => (
 (nilA x0).bind fun a1 =>
 (offA a1 0).bind fun a2 =>
 (offA a2 5).bind fun a3 =>
 (loadA true 4 a3 H).bind fun a4 =>
 callK (EV C) false n_log_Last [a4] H fun a5 H5 E5 =>
 (extA a5 0).bind fun a6 =>
 (extA a5 1).bind fun a7 =>
 endB false false n a6 H5 (E5 ++ []))) (List.length H) = some r) : EV C n_raft_stepper_last [x0] H = some r :=
 EV_of_fnK' (fn := Try.f36) (by kernel_rfl) (by kernel_rfl) (by kernel_rfl) hh
theorem raft_stepper_propose_of {r : R3} {x0 x1 x2 : AV} {H : List AObj} (hh : (fun n => (
 callK (EV C) false n_raft_stepper_add [x0, x1, x2] H fun a1 H1 E1 =>
 callK (EV C) false n_raft_stepper_last [x0] H1 fun a2 H2 E2 =>
 (nilA x0).bind fun a3 =>
 (offA a3 30).bind fun a4 =>
 stoK 1 a4 a2 H2 fun H5 E5 =>
 callK (EV C) false n_raft_stepper_counts [x0] H5 fun a6 H6 E6 =>
 callK (EV C) false n_raft_stepper_others [x0, (.clo n_raft_stepper_bring [x0] [])] H6 fun a7 H7 E7 =>
 endB false false n (.tup []) H7 (E7 ++ (E6 ++ (E5 ++ (E2 ++ (E1 ++ []))))))) (List.length H) = some r) : EV C n_raft_stepper_propose [x0, x1, x2] H = some r :=
 EV_of_fnK' (fn := Try.f37) (by kernel_rfl) (by kernel_rfl) (by kernel_rfl) hh
noncomputable def raft_stepper_change_J7 (n : Nat) (t0 t4 t5 t8 t76 t77 t78 : AV) (H : List AObj) (E : List Nat) : Option R3 :=
 loopK Try.prog C.G (EV C) (C.hint 38) Try.f38 (cAt (bodyOf Try.f38) [1, 1, 1, 1, 1, 1, 0, 1, 0, 0]) (kAt Try.prog C.G (EV C) (C.hint 38) Try.f38 (bodyOf Try.f38) [1, 1, 1, 1, 1, 1, 0, 1, 0] [] (endK Try.prog (C.hint 38) Try.f38 n))
 ⟨pat 103 [(0, t0), (4, t4), (5, t5), (8, t8), (76, t76), (77, t77), (78, t78)], H, E⟩
theorem raft_stepper_change_J7_of {r : R3} {n : Nat} {t0 t4 t5 t8 t76 t77 t78 : AV} {H : List AObj} {E : List Nat} (hh : (
 (binA .lss (Go.TypeDesc.int Go.IntKind.i64) (cmpT Try.prog) false t78 t77).bind fun a1 =>
 condK a1
 ((ixA 1 t76 t78 H).bind fun a2 =>
 (loadA false 1 a2 H).bind fun a3 =>
 callK (EV C) false n_conf_Has [t5, a3] H fun a4 H4 E4 =>
 (unA .not a4).bind fun a5 =>
 condK a5
 (callK (EV C) false n_raft_stepper_last [t0] H4 fun a6 H6 E6 =>
 (binA .add (Go.TypeDesc.int Go.IntKind.i64) (cmpT Try.prog) true a6 (.int .i64 1)).bind fun a7 =>
 (nilA t4).bind fun a8 =>
 (offA a8 19).bind fun a9 =>
 (arA 8 1 a9 a3).bind fun a10 =>
 stoK 1 a10 (.int .i64 0) H6 fun H11 E11 =>
 (nilA t4).bind fun a12 =>
 (offA a12 11).bind fun a13 =>
 (arA 8 1 a13 a3).bind fun a14 =>
 stoK 1 a14 a7 H11 fun H15 E15 =>
 (binA .add (Go.TypeDesc.int Go.IntKind.i64) (cmpT Try.prog) true t78 (.int .i64 1)).bind fun a16 =>
 raft_stepper_change_J7 n t0 t4 t5 t8 t76 t77 a16 H15 ((E15 ++ (E11 ++ (E6 ++ (E4 ++ [])))) ++ E))
 ((binA .add (Go.TypeDesc.int Go.IntKind.i64) (cmpT Try.prog) true t78 (.int .i64 1)).bind fun a17 =>
 raft_stepper_change_J7 n t0 t4 t5 t8 t76 t77 a17 H4 ((E4 ++ []) ++ E)))
 (callK (EV C) false n_raft_stepper_propose [t0, (.int .i64 2), t8] H fun a18 H18 E18 =>
 endB false false n (.tup []) H18 (E18 ++ E))) = some r) : raft_stepper_change_J7 n t0 t4 t5 t8 t76 t77 t78 H E = some r :=
 loop_step' (by kernel_rfl) hh
theorem raft_stepper_change_of {r : R3} {x0 x1 : AV} {H : List AObj} (hh : (fun n => (
 (nilA x0).bind fun a1 =>
 (offA a1 0).bind fun a2 =>
 callK (EV C) false n_raft_stepper_members [x0] H fun a3 H3 E3 =>
 (nilA a2).bind fun a4 =>
 (offA a4 5).bind fun a5 =>
 (loadA true 4 a5 H3).bind fun a6 =>
 (nilA a2).bind fun a7 =>
 (offA a7 9).bind fun a8 =>
 (loadA false 1 a8 H3).bind fun a9 =>
 (callD (EV C) n_log_Term [a6, a9] H3).bind fun a10 =>
 (extA a10 0).bind fun a11 =>
 (extA a10 1).bind fun a12 =>
 (nilA a2).bind fun a13 =>
 (offA a13 3).bind fun a14 =>
 (loadA false 1 a14 H3).bind fun a15 =>
 (binA .neq (Go.TypeDesc.int Go.IntKind.i64) (cmpT Try.prog) true a15 (.int .i64 2)).bind fun a16 =>
 splitK a16
 (endB false false n (.tup []) H3 (E3 ++ []))
 (callK (EV C) false n_conf_Step [a3, x1] H3 fun a17 H17 E17 =>
 (unA .not a17).bind fun a18 =>
 splitK a18
 (endB false false n (.tup []) H17 (E17 ++ (E3 ++ [])))
 ((nilA a2).bind fun a19 =>
 (offA a19 0).bind fun a20 =>
 (loadA false 1 a20 H17).bind fun a21 =>
 callK (EV C) false n_conf_Has [a3, a21] H17 fun a22 H22 E22 =>
 (unA .not a22).bind fun a23 =>
 splitK a23
 (endB false false n (.tup []) H22 (E22 ++ (E17 ++ (E3 ++ []))))
 (callK (EV C) false n_raft_stepper_last [x0] H22 fun a24 H24 E24 =>
 (binA .geq (Go.TypeDesc.int Go.IntKind.i64) (cmpT Try.prog) true a24 (.int .i64 1152921504606846976)).bind fun a25 =>
 splitK a25
 (endB false false n (.tup []) H24 (E24 ++ (E22 ++ (E17 ++ (E3 ++ [])))))
 ((binA .neq (Go.TypeDesc.interface #[("Error", 139)]) (cmpT Try.prog) true a12 .nili).bind fun a26 =>
 splitK a26
 (endB false false n (.tup []) H24 (E24 ++ (E22 ++ (E17 ++ (E3 ++ [])))))
 ((nilA a2).bind fun a27 =>
 (offA a27 1).bind fun a28 =>
 (loadA false 1 a28 H24).bind fun a29 =>
 (binA .neq (Go.TypeDesc.int Go.IntKind.i64) (cmpT Try.prog) false a11 a29).bind fun a30 =>
 splitK a30
 (endB false false n (.tup []) H24 (E24 ++ (E22 ++ (E17 ++ (E3 ++ [])))))
 (callK (EV C) false n_raft_stepper_pending [x0] H24 fun a31 H31 E31 =>
 condK a31
 (endB false false n (.tup []) H31 (E31 ++ (E24 ++ (E22 ++ (E17 ++ (E3 ++ []))))))
 (callK (EV C) false n_conf_Bytes [x1] H31 fun a32 H32 E32 =>
 (extA a32 0).bind fun a33 =>
 (extA a32 1).bind fun a34 =>
 (binA .neq (Go.TypeDesc.interface #[("Error", 139)]) (cmpT Try.prog) true a34 .nili).bind fun a35 =>
 condK a35
 (endB false false n (.tup []) H32 (E32 ++ (E31 ++ (E24 ++ (E22 ++ (E17 ++ (E3 ++ [])))))))
 ((lenV x1 H32).bind fun a36 =>
 raft_stepper_change_J7 n x0 a2 a3 a33 x1 a36 (.int .i64 0) H32 (E32 ++ (E31 ++ (E24 ++ (E22 ++ (E17 ++ (E3 ++ [])))))))))))))))) (List.length H) = some r) : EV C n_raft_stepper_change [x0, x1] H = some r :=
 EV_of_fnK' (fn := Try.f38) (by kernel_rfl) (by kernel_rfl) (by kernel_rfl) hh
theorem log_Compact_of {r : R3} {x0 x1 : AV} {H : List AObj} (hh : (fun n => (
 newK x0 H fun a1 H1 E1 =>
 newK (.agg [(.int .i64 0), (.int .i64 0), .nils, .nils]) H1 fun a2 H2 E2 =>
 (loadA true 4 a1 H2).bind fun a3 =>
 callK (EV C) false n_log_asked [a3, x1] H2 fun a4 H4 E4 =>
 (binA .neq (Go.TypeDesc.interface #[("Error", 139)]) (cmpT Try.prog) true a4 .nili).bind fun a5 =>
 condK a5
 ((fillB (AV.cells (.agg [(.int .i64 0), (.int .i64 0), .nils, .nils])) []).bind fun c6 =>
 stoK 4 a2 (.agg c6) H4 fun H7 E7 =>
 (loadA true 4 a2 H7).bind fun a8 =>
 endB false false n (.tup [a8, a4]) H7 (E7 ++ (E4 ++ (E2 ++ (E1 ++ [])))))
 ((loadA true 4 a1 H4).bind fun a9 =>
 (callD (EV C) n_log_term [a9, x1] H4).bind fun a10 =>
 (loadA true 4 a1 H4).bind fun a11 =>
 (callD (EV C) n_log_Members [a11, x1] H4).bind fun a12 =>
 (fillB (AV.cells (.agg [(.int .i64 0), (.int .i64 0), .nils])) [(0, 1, x1), (1, 1, a10), (2, 1, a12)]).bind fun c13 =>
 (offA a1 3).bind fun a14 =>
 (loadA false 1 a14 H4).bind fun a15 =>
 (offA a1 0).bind fun a16 =>
 (offA a16 0).bind fun a17 =>
 (loadA false 1 a17 H4).bind fun a18 =>
 (binA .sub (Go.TypeDesc.int Go.IntKind.i64) (cmpT Try.prog) false x1 a18).bind fun a19 =>
 (cutA 3 a15 (some a19) none none H4).bind fun a20 =>
 (callD (EV C) n_Clone_api_Entry [a20] H4).bind fun a21 =>
 (fillB (AV.cells (.agg [(.int .i64 0), (.int .i64 0), .nils, .nils])) [(0, 3, (.agg c13)), (3, 1, a21)]).bind fun c22 =>
 stoK 4 a2 (.agg c22) H4 fun H23 E23 =>
 (loadA true 4 a2 H23).bind fun a24 =>
 endB false false n (.tup [a24, .nili]) H23 (E23 ++ (E4 ++ (E2 ++ (E1 ++ []))))))) (List.length H) = some r) : EV C n_log_Compact [x0, x1] H = some r :=
 EV_of_fnK' (fn := Try.f39) (by kernel_rfl) (by kernel_rfl) (by kernel_rfl) hh
noncomputable def log_Check_J5 (n : Nat) (t3 t40 t41 t42 : AV) (H : List AObj) (E : List Nat) : Option R3 :=
 loopK Try.prog C.G (EV C) (C.hint 40) Try.f40 (cAt (bodyOf Try.f40) [1, 1, 1, 0, 1, 0, 0]) (kAt Try.prog C.G (EV C) (C.hint 40) Try.f40 (bodyOf Try.f40) [1, 1, 1, 0, 1, 0] [] (endK Try.prog (C.hint 40) Try.f40 n))
 ⟨pat 54 [(3, t3), (40, t40), (41, t41), (42, t42)], H, E⟩
theorem log_Check_J5_of {r : R3} {n : Nat} {t3 t40 t41 t42 : AV} {H : List AObj} {E : List Nat} (hh : (
 (binA .lss (Go.TypeDesc.int Go.IntKind.i64) (cmpT Try.prog) false t42 t41).bind fun a1 =>
 condK a1
 ((ixA 3 t40 t42 H).bind fun a2 =>
 (loadA true 3 a2 H).bind fun a3 =>
 newK (.agg [(.int .i64 0), (.int .i64 0), .nils]) H fun a4 H4 E4 =>
 stoK 3 a4 a3 H4 fun H5 E5 =>
 (loadA true 3 a4 H5).bind fun a6 =>
 callK (EV C) false n_log_entry [a6, t3] H5 fun a7 H7 E7 =>
 (unA .not a7).bind fun a8 =>
 condK a8
 (endB false false n (.ifc t_api_Code (.int .i64 3)) H7 ((E7 ++ (E5 ++ (E4 ++ []))) ++ E))
 ((offA a4 0).bind fun a9 =>
 (loadA false 1 a9 H7).bind fun a10 =>
 (binA .add (Go.TypeDesc.int Go.IntKind.i64) (cmpT Try.prog) true t42 (.int .i64 1)).bind fun a11 =>
 condB (List.all (E7 ++ (E5 ++ (E4 ++ []))) (fun e => decide (List.length H ≤ e)) && (AV.bel (List.length H) a10 && (AV.bel (List.length H) t40 && (AV.bel (List.length H) t41 && (AV.bel (List.length H) a11 && true)))))
 (log_Check_J5 n a10 t40 t41 a11 (List.take (List.length H) H7) E)))
 (endB false false n .nili H E)) = some r) : log_Check_J5 n t3 t40 t41 t42 H E = some r :=
 loop_step' (by kernel_rfl) hh
theorem log_Check_of {r : R3} {x0 : AV} {H : List AObj} (hh : (fun n => (
 newK x0 H fun a1 H1 E1 =>
 (offA a1 0).bind fun a2 =>
 (offA a2 0).bind fun a3 =>
 (loadA false 1 a3 H1).bind fun a4 =>
 callK (EV C) false n_log_count [a4] H1 fun a5 H5 E5 =>
 (unA .not a5).bind fun a6 =>
 splitK a6
 (endB false false n (.ifc t_api_Code (.int .i64 3)) H5 (E5 ++ (E1 ++ [])))
 ((offA a1 0).bind fun a7 =>
 (offA a7 1).bind fun a8 =>
 (loadA false 1 a8 H5).bind fun a9 =>
 callK (EV C) false n_log_count [a9] H5 fun a10 H10 E10 =>
 (unA .not a10).bind fun a11 =>
 splitK a11
 (endB false false n (.ifc t_api_Code (.int .i64 3)) H10 (E10 ++ (E5 ++ (E1 ++ []))))
 ((offA a1 0).bind fun a12 =>
 (offA a12 2).bind fun a13 =>
 (loadA false 1 a13 H10).bind fun a14 =>
 callK (EV C) false n_conf_May [a14] H10 fun a15 H15 E15 =>
 (unA .not a15).bind fun a16 =>
 splitK a16
 (endB false false n (.ifc t_api_Code (.int .i64 3)) H15 (E15 ++ (E10 ++ (E5 ++ (E1 ++ [])))))
 ((offA a1 3).bind fun a17 =>
 (loadA false 1 a17 H15).bind fun a18 =>
 (lenV a18 H15).bind fun a19 =>
 (offA a1 0).bind fun a20 =>
 (offA a20 0).bind fun a21 =>
 (loadA false 1 a21 H15).bind fun a22 =>
 (binA .sub (Go.TypeDesc.int Go.IntKind.i64) (cmpT Try.prog) true (.int .i64 1152921504606846976) a22).bind fun a23 =>
 (binA .gtr (Go.TypeDesc.int Go.IntKind.i64) (cmpT Try.prog) false a19 a23).bind fun a24 =>
 condK a24
 (endB false false n (.ifc t_api_Code (.int .i64 3)) H15 (E15 ++ (E10 ++ (E5 ++ (E1 ++ [])))))
 ((offA a1 0).bind fun a25 =>
 (offA a25 1).bind fun a26 =>
 (loadA false 1 a26 H15).bind fun a27 =>
 (offA a1 3).bind fun a28 =>
 (loadA false 1 a28 H15).bind fun a29 =>
 (lenV a29 H15).bind fun a30 =>
 log_Check_J5 n a27 a29 a30 (.int .i64 0) H15 (E15 ++ (E10 ++ (E5 ++ (E1 ++ [])))))))))) (List.length H) = some r) : EV C n_log_Check [x0] H = some r :=
 EV_of_fnK' (fn := Try.f40) (by kernel_rfl) (by kernel_rfl) (by kernel_rfl) hh
theorem log_Last_of {r : R3} {x0 : AV} {H : List AObj} (hh : (fun n => (
 newK x0 H fun a1 H1 E1 =>
 (loadA true 4 a1 H1).bind fun a2 =>
 callK (EV C) false n_log_Check [a2] H1 fun a3 H3 E3 =>
 (binA .neq (Go.TypeDesc.interface #[("Error", 139)]) (cmpT Try.prog) true a3 .nili).bind fun a4 =>
 condK a4
 (endB false false n (.tup [(.int .i64 0), (.int .i64 0)]) H3 (E3 ++ (E1 ++ [])))
 ((loadA true 4 a1 H3).bind fun a5 =>
 (callD (EV C) n_log_last [a5] H3).bind fun a6 =>
 (loadA true 4 a1 H3).bind fun a7 =>
 (loadA true 4 a1 H3).bind fun a8 =>
 (callD (EV C) n_log_last [a8] H3).bind fun a9 =>
 (callD (EV C) n_log_term [a7, a9] H3).bind fun a10 =>
 endB false false n (.tup [a6, a10]) H3 (E3 ++ (E1 ++ []))))) (List.length H) = some r) : EV C n_log_Last [x0] H = some r :=
 EV_of_fnK' (fn := Try.f41) (by kernel_rfl) (by kernel_rfl) (by kernel_rfl) hh
theorem raft_in_of {r : R3} {x0 x1 x2 : AV} {H : List AObj} (hh : (fun n => (
 (binA .geq (Go.TypeDesc.int Go.IntKind.i64) (cmpT Try.prog) false x0 x1).bind fun a1 =>
 splitK a1
 ((binA .leq (Go.TypeDesc.int Go.IntKind.i64) (cmpT Try.prog) false x0 x2).bind fun a2 =>
 endB false false n a2 H [])
 (endB false false n (.bool false) H []))) (List.length H) = some r) : EV C n_raft_in [x0, x1, x2] H = some r :=
 EV_of_fnK' (fn := Try.f42) (by kernel_rfl) (by kernel_rfl) (by kernel_rfl) hh
theorem Contains_int_of {r : R3} {x0 x1 : AV} {H : List AObj} (hh : (fun n => (
 callK (EV C) false n_Index_int [x0, x1] H fun a1 H1 E1 =>
 (binA .geq (Go.TypeDesc.int Go.IntKind.i64) (cmpT Try.prog) true a1 (.int .i64 0)).bind fun a2 =>
 endB false false n a2 H1 (E1 ++ []))) (List.length H) = some r) : EV C n_Contains_int [x0, x1] H = some r :=
 EV_of_fnK' (fn := Try.f43) (by kernel_rfl) (by kernel_rfl) (by kernel_rfl) hh
end Go.Pm
