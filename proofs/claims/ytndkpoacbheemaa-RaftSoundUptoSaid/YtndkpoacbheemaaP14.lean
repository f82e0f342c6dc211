/- A part of the proof: what the functions of the program answer, as plain lists and numbers. -/
import Derived.Test.YtndkpoacbheemaaP8
namespace Go.Pm
open Go.Proofs
set_option linter.unusedVariables false
set_option maxRecDepth 100000
noncomputable def log_Members_J4 (n : Nat) (t2 t5 : AV) (H : List AObj) (E : List Nat) : Option R3 :=
 loopK Try.prog C.G (EV C) (C.hint 75) Try.f75 (cAt (bodyOf Try.f75) [1, 1, 0, 1, 0, 0]) (kAt Try.prog C.G (EV C) (C.hint 75) Try.f75 (bodyOf Try.f75) [1, 1, 0, 1, 0] [] (endK Try.prog (C.hint 75) Try.f75 n))
 ⟨pat 49 [(2, t2), (5, t5)], H, E⟩
theorem log_Members_J4_of {r : R3} {n : Nat} {t2 t5 : AV} {H : List AObj} {E : List Nat} (hh : (
 (offA t2 0).bind fun a1 =>
 (offA a1 0).bind fun a2 =>
 (loadA false 1 a2 H).bind fun a3 =>
 (binA .gtr (Go.TypeDesc.int Go.IntKind.i64) (cmpT Try.prog) false t5 a3).bind fun a4 =>
 condK a4
 ((offA t2 3).bind fun a5 =>
 (loadA false 1 a5 H).bind fun a6 =>
 (offA t2 0).bind fun a7 =>
 (offA a7 0).bind fun a8 =>
 (loadA false 1 a8 H).bind fun a9 =>
 (binA .sub (Go.TypeDesc.int Go.IntKind.i64) (cmpT Try.prog) false t5 a9).bind fun a10 =>
 (binA .sub (Go.TypeDesc.int Go.IntKind.i64) (cmpT Try.prog) true a10 (.int .i64 1)).bind fun a11 =>
 (ixA 3 a6 a11 H).bind fun a12 =>
 (loadA true 3 a12 H).bind fun a13 =>
 newK (.agg [(.int .i64 0), (.int .i64 0), .nils]) H fun a14 H14 E14 =>
 stoK 3 a14 a13 H14 fun H15 E15 =>
 (offA a14 1).bind fun a16 =>
 (loadA false 1 a16 H15).bind fun a17 =>
 (binA .eql (Go.TypeDesc.int Go.IntKind.i64) (cmpT Try.prog) true a17 (.int .i64 2)).bind fun a18 =>
 condK a18
 ((offA a14 2).bind fun a19 =>
 (loadA false 1 a19 H15).bind fun a20 =>
 callK (EV C) false n_conf_Of [a20] H15 fun a21 H21 E21 =>
 (extA a21 0).bind fun a22 =>
 (extA a21 1).bind fun a23 =>
 (binA .eql (Go.TypeDesc.interface #[("Error", 139)]) (cmpT Try.prog) true a23 .nili).bind fun a24 =>
 condK a24
 (endB false false n a22 H21 ((E21 ++ (E15 ++ (E14 ++ []))) ++ E))
 ((binA .sub (Go.TypeDesc.int Go.IntKind.i64) (cmpT Try.prog) true t5 (.int .i64 1)).bind fun a25 =>
 condB (List.all (E21 ++ (E15 ++ (E14 ++ []))) (fun e => decide (List.length H ≤ e)) && (AV.bel (List.length H) t2 && (AV.bel (List.length H) a25 && true)))
 (log_Members_J4 n t2 a25 (List.take (List.length H) H21) E)))
 ((binA .sub (Go.TypeDesc.int Go.IntKind.i64) (cmpT Try.prog) true t5 (.int .i64 1)).bind fun a26 =>
 condB (List.all (E15 ++ (E14 ++ [])) (fun e => decide (List.length H ≤ e)) && (AV.bel (List.length H) t2 && (AV.bel (List.length H) a26 && true)))
 (log_Members_J4 n t2 a26 (List.take (List.length H) H15) E)))
 ((offA t2 0).bind fun a27 =>
 (offA a27 2).bind fun a28 =>
 (loadA false 1 a28 H).bind fun a29 =>
 callK (EV C) false n_Clone_int [a29] H fun a30 H30 E30 =>
 endB false false n a30 H30 (E30 ++ E))) = some r) : log_Members_J4 n t2 t5 H E = some r :=
 loop_step' (by kernel_rfl) hh
theorem log_Members_of {r : R3} {x0 x1 : AV} {H : List AObj} (hh : (fun n => (
 newK x0 H fun a1 H1 E1 =>
 (loadA true 4 a1 H1).bind fun a2 =>
 callK (EV C) false n_log_Check [a2] H1 fun a3 H3 E3 =>
 (binA .neq (Go.TypeDesc.interface #[("Error", 139)]) (cmpT Try.prog) true a3 .nili).bind fun a4 =>
 condK a4
 (endB false false n .nils H3 (E3 ++ (E1 ++ [])))
 ((loadA true 4 a1 H3).bind fun a5 =>
 callK (EV C) false n_log_last [a5] H3 fun a6 H6 E6 =>
 (minA [x1, a6]).bind fun a7 =>
 log_Members_J4 n a1 a7 H6 (E6 ++ (E3 ++ (E1 ++ [])))))) (List.length H) = some r) : EV C n_log_Members [x0, x1] H = some r :=
 EV_of_fnK' (fn := Try.f75) (by kernel_rfl) (by kernel_rfl) (by kernel_rfl) hh
theorem Clone_api_Entry_of {r : R3} {x0 : AV} {H : List AObj} (hh : (fun n => (
 (binA .eql (Go.TypeDesc.slice 81) (cmpT Try.prog) true x0 .nils).bind fun a1 =>
 condK a1
 (endB false false n .nils H [])
 ((appD 3 40 (AV.emp none) x0 H).bind fun a2 =>
 endB false false n a2 H []))) (List.length H) = some r) : EV C0 n_Clone_api_Entry [x0] H = some r :=
 EV_of_fnK' (fn := Try.f76) (by kernel_rfl) (by kernel_rfl) (by kernel_rfl) hh
theorem log_count_of {r : R3} {x0 : AV} {H : List AObj} (hh : (fun n => (
 (binA .geq (Go.TypeDesc.int Go.IntKind.i64) (cmpT Try.prog) true x0 (.int .i64 0)).bind fun a1 =>
 splitK a1
 ((binA .leq (Go.TypeDesc.int Go.IntKind.i64) (cmpT Try.prog) true x0 (.int .i64 1152921504606846976)).bind fun a2 =>
 endB false false n a2 H [])
 (endB false false n (.bool false) H []))) (List.length H) = some r) : EV C n_log_count [x0] H = some r :=
 EV_of_fnK' (fn := Try.f77) (by kernel_rfl) (by kernel_rfl) (by kernel_rfl) hh
noncomputable def conf_May_J2 (n : Nat) (t0 t5 t6 t7 : AV) (H : List AObj) (E : List Nat) : Option R3 :=
 loopK Try.prog C.G (EV C) (C.hint 78) Try.f78 (cAt (bodyOf Try.f78) [1, 0, 1, 0, 0]) (kAt Try.prog C.G (EV C) (C.hint 78) Try.f78 (bodyOf Try.f78) [1, 0, 1, 0] [] (endK Try.prog (C.hint 78) Try.f78 n))
 ⟨pat 35 [(0, t0), (5, t5), (6, t6), (7, t7)], H, E⟩
theorem conf_May_J2_of {r : R3} {n : Nat} {t0 t5 t6 t7 : AV} {H : List AObj} {E : List Nat} (hh : (
 (binA .lss (Go.TypeDesc.int Go.IntKind.i64) (cmpT Try.prog) false t7 t6).bind fun a1 =>
 condK a1
 ((ixA 1 t5 t7 H).bind fun a2 =>
 (loadA false 1 a2 H).bind fun a3 =>
 (binA .lss (Go.TypeDesc.int Go.IntKind.i64) (cmpT Try.prog) true a3 (.int .i64 1)).bind fun a4 =>
 splitK a4
 (endB false false n (.bool false) H E)
 ((binA .gtr (Go.TypeDesc.int Go.IntKind.i64) (cmpT Try.prog) true a3 (.int .i64 7)).bind fun a5 =>
 splitK a5
 (endB false false n (.bool false) H E)
 ((binA .gtr (Go.TypeDesc.int Go.IntKind.i64) (cmpT Try.prog) true t7 (.int .i64 0)).bind fun a6 =>
 splitK a6
 ((binA .sub (Go.TypeDesc.int Go.IntKind.i64) (cmpT Try.prog) true t7 (.int .i64 1)).bind fun a7 =>
 (ixA 1 t0 a7 H).bind fun a8 =>
 (loadA false 1 a8 H).bind fun a9 =>
 (binA .leq (Go.TypeDesc.int Go.IntKind.i64) (cmpT Try.prog) false a3 a9).bind fun a10 =>
 condK a10
 (endB false false n (.bool false) H E)
 ((binA .add (Go.TypeDesc.int Go.IntKind.i64) (cmpT Try.prog) true t7 (.int .i64 1)).bind fun a11 =>
 conf_May_J2 n t0 t5 t6 a11 H E))
 ((binA .add (Go.TypeDesc.int Go.IntKind.i64) (cmpT Try.prog) true t7 (.int .i64 1)).bind fun a12 =>
 conf_May_J2 n t0 t5 t6 a12 H E))))
 ((lenV t0 H).bind fun a13 =>
 (binA .gtr (Go.TypeDesc.int Go.IntKind.i64) (cmpT Try.prog) true a13 (.int .i64 0)).bind fun a14 =>
 endB false false n a14 H E)) = some r) : conf_May_J2 n t0 t5 t6 t7 H E = some r :=
 loop_step' (by kernel_rfl) hh
theorem conf_May_of {r : R3} {x0 : AV} {H : List AObj} (hh : (fun n => (
 (lenV x0 H).bind fun a1 =>
 conf_May_J2 n x0 x0 a1 (.int .i64 0) H [])) (List.length H) = some r) : EV C n_conf_May [x0] H = some r :=
 EV_of_fnK' (fn := Try.f78) (by kernel_rfl) (by kernel_rfl) (by kernel_rfl) hh
theorem log_entry_of {r : R3} {x0 x1 : AV} {H : List AObj} (hh : (fun n => (
 newK x0 H fun a1 H1 E1 =>
 (offA a1 0).bind fun a2 =>
 (loadA false 1 a2 H1).bind fun a3 =>
 (maxA [x1, (.int .i64 1)]).bind fun a4 =>
 (binA .lss (Go.TypeDesc.int Go.IntKind.i64) (cmpT Try.prog) false a3 a4).bind fun a5 =>
 splitK a5
 (endB false false n (.bool false) H1 (E1 ++ []))
 ((offA a1 0).bind fun a6 =>
 (loadA false 1 a6 H1).bind fun a7 =>
 callK (EV C) false n_log_count [a7] H1 fun a8 H8 E8 =>
 (unA .not a8).bind fun a9 =>
 splitK a9
 (endB false false n (.bool false) H8 (E8 ++ (E1 ++ [])))
 ((offA a1 1).bind fun a10 =>
 (loadA false 1 a10 H8).bind fun a11 =>
 (binA .lss (Go.TypeDesc.int Go.IntKind.i64) (cmpT Try.prog) true a11 (.int .i64 0)).bind fun a12 =>
 splitK a12
 (endB false false n (.bool false) H8 (E8 ++ (E1 ++ [])))
 ((offA a1 1).bind fun a13 =>
 (loadA false 1 a13 H8).bind fun a14 =>
 (binA .gtr (Go.TypeDesc.int Go.IntKind.i64) (cmpT Try.prog) true a14 (.int .i64 2)).bind fun a15 =>
 condK a15
 (endB false false n (.bool false) H8 (E8 ++ (E1 ++ [])))
 ((offA a1 1).bind fun a16 =>
 (loadA false 1 a16 H8).bind fun a17 =>
 (binA .neq (Go.TypeDesc.int Go.IntKind.i64) (cmpT Try.prog) true a17 (.int .i64 2)).bind fun a18 =>
 condK a18
 (endB false false n (.bool true) H8 (E8 ++ (E1 ++ [])))
 ((offA a1 2).bind fun a19 =>
 (loadA false 1 a19 H8).bind fun a20 =>
 callK (EV C) false n_conf_Of [a20] H8 fun a21 H21 E21 =>
 (extA a21 0).bind fun a22 =>
 (extA a21 1).bind fun a23 =>
 (binA .eql (Go.TypeDesc.interface #[("Error", 139)]) (cmpT Try.prog) true a23 .nili).bind fun a24 =>
 endB false false n a24 H21 (E21 ++ (E8 ++ (E1 ++ [])))))))))) (List.length H) = some r) : EV C n_log_entry [x0, x1] H = some r :=
 EV_of_fnK' (fn := Try.f79) (by kernel_rfl) (by kernel_rfl) (by kernel_rfl) hh
theorem log_last_of {r : R3} {x0 : AV} {H : List AObj} (hh : (fun n => (
 newK x0 H fun a1 H1 E1 =>
 (offA a1 0).bind fun a2 =>
 (offA a2 0).bind fun a3 =>
 (loadA false 1 a3 H1).bind fun a4 =>
 (offA a1 3).bind fun a5 =>
 (loadA false 1 a5 H1).bind fun a6 =>
 (lenV a6 H1).bind fun a7 =>
 (binA .add (Go.TypeDesc.int Go.IntKind.i64) (cmpT Try.prog) false a4 a7).bind fun a8 =>
 endB false false n a8 H1 (E1 ++ []))) (List.length H) = some r) : EV C n_log_last [x0] H = some r :=
 EV_of_fnK' (fn := Try.f80) (by kernel_rfl) (by kernel_rfl) (by kernel_rfl) hh
noncomputable def Index_int_J2 (n : Nat) (t0 t1 t7 t8 : AV) (H : List AObj) (E : List Nat) : Option R3 :=
 loopK Try.prog C.G (EV C) (C.hint 81) Try.f81 (cAt (bodyOf Try.f81) [1, 0, 1, 0, 0]) (kAt Try.prog C.G (EV C) (C.hint 81) Try.f81 (bodyOf Try.f81) [1, 0, 1, 0] [] (endK Try.prog (C.hint 81) Try.f81 n))
 ⟨pat 19 [(0, t0), (1, t1), (7, t7), (8, t8)], H, E⟩
theorem Index_int_J2_of {r : R3} {n : Nat} {t0 t1 t7 t8 : AV} {H : List AObj} {E : List Nat} (hh : (
 (binA .lss (Go.TypeDesc.int Go.IntKind.i64) (cmpT Try.prog) false t8 t7).bind fun a1 =>
 condK a1
 ((ixA 1 t0 t8 H).bind fun a2 =>
 (loadA false 1 a2 H).bind fun a3 =>
 (binA .eql (Go.TypeDesc.int Go.IntKind.i64) (cmpT Try.prog) false t1 a3).bind fun a4 =>
 condK a4
 (endB false false n t8 H E)
 ((binA .add (Go.TypeDesc.int Go.IntKind.i64) (cmpT Try.prog) true t8 (.int .i64 1)).bind fun a5 =>
 Index_int_J2 n t0 t1 t7 a5 H E))
 (endB false false n (.int .i64 (-1)) H E)) = some r) : Index_int_J2 n t0 t1 t7 t8 H E = some r :=
 loop_step' (by kernel_rfl) hh
theorem Index_int_of {r : R3} {x0 x1 : AV} {H : List AObj} (hh : (fun n => (
 (lenV x0 H).bind fun a1 =>
 Index_int_J2 n x0 x1 a1 (.int .i64 0) H [])) (List.length H) = some r) : EV C n_Index_int [x0, x1] H = some r :=
 EV_of_fnK' (fn := Try.f81) (by kernel_rfl) (by kernel_rfl) (by kernel_rfl) hh
theorem log_Slice_of {r : R3} {x0 x1 x2 : AV} {H : List AObj} (hh : (fun n => (
 newK x0 H fun a1 H1 E1 =>
 (loadA true 4 a1 H1).bind fun a2 =>
 callK (EV C) false n_log_asked [a2, x1] H1 fun a3 H3 E3 =>
 (binA .neq (Go.TypeDesc.interface #[("Error", 139)]) (cmpT Try.prog) true a3 .nili).bind fun a4 =>
 splitK a4
 (endB false false n .nils H3 (E3 ++ (E1 ++ [])))
 ((offA a1 0).bind fun a5 =>
 (offA a5 0).bind fun a6 =>
 (loadA false 1 a6 H3).bind fun a7 =>
 (binA .eql (Go.TypeDesc.int Go.IntKind.i64) (cmpT Try.prog) false x1 a7).bind fun a8 =>
 splitK a8
 (endB false false n .nils H3 (E3 ++ (E1 ++ [])))
 ((binA .lss (Go.TypeDesc.int Go.IntKind.i64) (cmpT Try.prog) true x2 (.int .i64 1)).bind fun a9 =>
 condK a9
 (endB false false n .nils H3 (E3 ++ (E1 ++ [])))
 ((offA a1 3).bind fun a10 =>
 (loadA false 1 a10 H3).bind fun a11 =>
 (offA a1 0).bind fun a12 =>
 (offA a12 0).bind fun a13 =>
 (loadA false 1 a13 H3).bind fun a14 =>
 (binA .sub (Go.TypeDesc.int Go.IntKind.i64) (cmpT Try.prog) false x1 a14).bind fun a15 =>
 (binA .sub (Go.TypeDesc.int Go.IntKind.i64) (cmpT Try.prog) true a15 (.int .i64 1)).bind fun a16 =>
 (cutA 3 a11 (some a16) none none H3).bind fun a17 =>
 (lenV a17 H3).bind fun a18 =>
 (minA [x2, a18]).bind fun a19 =>
 (cutA 3 a17 none (some a19) none H3).bind fun a20 =>
 callK (EV C) false n_Clone_api_Entry [a20] H3 fun a21 H21 E21 =>
 endB false false n a21 H21 (E21 ++ (E3 ++ (E1 ++ [])))))))) (List.length H) = some r) : EV C n_log_Slice [x0, x1, x2] H = some r :=
 EV_of_fnK' (fn := Try.f84) (by kernel_rfl) (by kernel_rfl) (by kernel_rfl) hh
theorem raft_stepper_stands_1_of {r : R3} {x0 x1 x2 x3 : AV} {H : List AObj} (hh : (fun n => (
 (loadA false 1 x1 H).bind fun a1 =>
 (loadA false 1 x2 H).bind fun a2 =>
 (loadA false 1 x3 H).bind fun a3 =>
 (fillB (AV.cells (.agg [(.int .i64 0), (.int .i64 0), (.int .i64 0), (.int .i64 0), (.int .i64 0), (.int .i64 0), (.int .i64 0), (.bool false), .nils, .nils, (.int .i64 0), .nils, (.int .i64 0), .nils, .nils, .nils, .nils])) [(0, 1, (.int .i64 1)), (4, 1, a2), (5, 1, a3)]).bind fun c4 =>
 callK (EV C) false n_raft_stepper_send [a1, x0, (.agg c4)] H fun a5 H5 E5 =>
 endB false false n (.tup []) H5 (E5 ++ []))) (List.length H) = some r) : EV C n_raft_stepper_stands_1 [x0, x1, x2, x3] H = some r :=
 EV_of_fnK' (fn := Try.f85) (by kernel_rfl) (by kernel_rfl) (by kernel_rfl) hh
end Go.Pm
