/- A part of the proof: what the functions of the program answer, as plain lists and numbers. -/
import Derived.Test.YtndkpoacbheemaaGreatP8
namespace Go.Pm
set_option linter.unusedVariables false
open Go.Proofs
variable {r : R3} {n : Nat} {H : List AObj} {E : List Nat}
set_option linter.unusedVariables false
set_option maxRecDepth 100000
noncomputable def conf_May_J2 (n : Nat) (t0 t5 t6 t7 : AV) (H : List AObj) (E : List Nat) : Option R3 :=
 lK 69 Tryz.f69 [1, 0, 1, 0] n
 ⟨pat 35 [(0, t0), (5, t5), (6, t6), (7, t7)], H, E⟩
theorem conf_May_J2_of {t0 t5 t6 t7 : AV} (hh : (
 (binA .lss tI cT false t7 t6).bind fun a1 =>
 condK a1
 ((ixA 1 t5 t7 H).bind fun a2 =>
 (loadA false 1 a2 H).bind fun a3 =>
 (binA .lss tI cT true a3 (.int .i64 1)).bind fun a4 =>
 splitK a4
 (endB false false n (.bool false) H E)
 ((binA .gtr tI cT true a3 (.int .i64 7)).bind fun a5 =>
 splitK a5
 (endB false false n (.bool false) H E)
 ((binA .gtr tI cT true t7 z0).bind fun a6 =>
 splitK a6
 ((binA .sub tI cT true t7 (.int .i64 1)).bind fun a7 =>
 (ixA 1 t0 a7 H).bind fun a8 =>
 (loadA false 1 a8 H).bind fun a9 =>
 (binA .leq tI cT false a3 a9).bind fun a10 =>
 condK a10
 (endB false false n (.bool false) H E)
 ((binA .add tI cT true t7 (.int .i64 1)).bind fun a11 =>
 conf_May_J2 n t0 t5 t6 a11 H E))
 ((binA .add tI cT true t7 (.int .i64 1)).bind fun a12 =>
 conf_May_J2 n t0 t5 t6 a12 H E))))
 ((lenV t0 H).bind fun a13 =>
 (binA .gtr tI cT true a13 z0).bind fun a14 =>
 endB false false n a14 H E)) = some r) : conf_May_J2 n t0 t5 t6 t7 H E = some r :=
 loop_step' (by kernel_rfl) hh
theorem conf_May_of {x0 : AV} (hh : (fun n => (
 (lenV x0 H).bind fun a1 =>
 conf_May_J2 n x0 x0 a1 z0 H [])) (List.length H) = some r) : EV C n_conf_May [x0] H = some r :=
 EV_of_fnK' (fn := Tryz.f69) (by kernel_rfl) (by kernel_rfl) (by kernel_rfl) hh
theorem log_entry_of {x0 x1 : AV} (hh : (fun n => (
 newK x0 H fun a1 H1 E1 =>
 (offA a1 0).bind fun a2 =>
 (loadA false 1 a2 H1).bind fun a3 =>
 (maxA [x1, (.int .i64 1)]).bind fun a4 =>
 (binA .lss tI cT false a3 a4).bind fun a5 =>
 splitK a5
 (endB false false n (.bool false) H1 (E1 ++ []))
 ((offA a1 0).bind fun a6 =>
 (loadA false 1 a6 H1).bind fun a7 =>
 callK (EV C) false n_log_count [a7] H1 fun a8 H8 E8 =>
 (unA .not a8).bind fun a9 =>
 splitK a9
 (endB false false n (.bool false) H8 (E8 ++ (E1 ++ [])))
 ((offA a1 1).bind fun a10 =>
 (loadA false 1 a10 H8).bind fun a11 =>
 (binA .lss tI cT true a11 z0).bind fun a12 =>
 splitK a12
 (endB false false n (.bool false) H8 (E8 ++ (E1 ++ [])))
 ((offA a1 1).bind fun a13 =>
 (loadA false 1 a13 H8).bind fun a14 =>
 (binA .gtr tI cT true a14 (.int .i64 2)).bind fun a15 =>
 condK a15
 (endB false false n (.bool false) H8 (E8 ++ (E1 ++ [])))
 ((offA a1 1).bind fun a16 =>
 (loadA false 1 a16 H8).bind fun a17 =>
 (binA .neq tI cT true a17 (.int .i64 2)).bind fun a18 =>
 condK a18
 (endB false false n (.bool true) H8 (E8 ++ (E1 ++ [])))
 ((offA a1 2).bind fun a19 =>
 (loadA false 1 a19 H8).bind fun a20 =>
 callK (EV C) false n_conf_Of [a20] H8 fun a21 H21 E21 =>
 (extA a21 0).bind fun a22 =>
 (extA a21 1).bind fun a23 =>
 (binA .eql (Go.TypeDesc.interface #[("Error", 121)]) cT true a23 .nili).bind fun a24 =>
 endB false false n a24 H21 (E21 ++ (E8 ++ (E1 ++ [])))))))))) (List.length H) = some r) : EV C n_log_entry [x0, x1] H = some r :=
 EV_of_fnK' (fn := Tryz.f70) (by kernel_rfl) (by kernel_rfl) (by kernel_rfl) hh
theorem log_last_of {x0 : AV} (hh : (fun n => (
 newK x0 H fun a1 H1 E1 =>
 (offA a1 0).bind fun a2 =>
 (offA a2 0).bind fun a3 =>
 (loadA false 1 a3 H1).bind fun a4 =>
 (offA a1 3).bind fun a5 =>
 (loadA false 1 a5 H1).bind fun a6 =>
 (lenV a6 H1).bind fun a7 =>
 (binA .add tI cT false a4 a7).bind fun a8 =>
 endB false false n a8 H1 (E1 ++ []))) (List.length H) = some r) : EV C n_log_last [x0] H = some r :=
 EV_of_fnK' (fn := Tryz.f71) (by kernel_rfl) (by kernel_rfl) (by kernel_rfl) hh
noncomputable def Index_int_J2 (n : Nat) (t0 t1 t7 t8 : AV) (H : List AObj) (E : List Nat) : Option R3 :=
 lK 72 Tryz.f72 [1, 0, 1, 0] n
 ⟨pat 19 [(0, t0), (1, t1), (7, t7), (8, t8)], H, E⟩
theorem Index_int_J2_of {t0 t1 t7 t8 : AV} (hh : (
 (binA .lss tI cT false t8 t7).bind fun a1 =>
 condK a1
 ((ixA 1 t0 t8 H).bind fun a2 =>
 (loadA false 1 a2 H).bind fun a3 =>
 (binA .eql tI cT false t1 a3).bind fun a4 =>
 condK a4
 (endB false false n t8 H E)
 ((binA .add tI cT true t8 (.int .i64 1)).bind fun a5 =>
 Index_int_J2 n t0 t1 t7 a5 H E))
 (endB false false n (.int .i64 (-1)) H E)) = some r) : Index_int_J2 n t0 t1 t7 t8 H E = some r :=
 loop_step' (by kernel_rfl) hh
theorem Index_int_of {x0 x1 : AV} (hh : (fun n => (
 (lenV x0 H).bind fun a1 =>
 Index_int_J2 n x0 x1 a1 z0 H [])) (List.length H) = some r) : EV C n_Index_int [x0, x1] H = some r :=
 EV_of_fnK' (fn := Tryz.f72) (by kernel_rfl) (by kernel_rfl) (by kernel_rfl) hh
noncomputable def ref17_May_J4 (n : Nat) (t0 t3 : AV) (H : List AObj) (E : List Nat) : Option R3 :=
 lK 73 Tryz.f73 [1, 1, 0, 1, 0] n
 ⟨pat 46 [(0, t0), (3, t3)], H, E⟩
theorem ref17_May_J4_of {t0 t3 : AV} (hh : (
 (lenV t0 H).bind fun a1 =>
 (binA .lss tI cT false t3 a1).bind fun a2 =>
 condK a2
 ((ixA 1 t0 t3 H).bind fun a3 =>
 (loadA false 1 a3 H).bind fun a4 =>
 (binA .lss tI cT true a4 (.int .i64 1)).bind fun a5 =>
 splitK a5
 (endB false false n (.bool false) H E)
 ((ixA 1 t0 t3 H).bind fun a6 =>
 (loadA false 1 a6 H).bind fun a7 =>
 (binA .gtr tI cT true a7 (.int .i64 7)).bind fun a8 =>
 splitK a8
 (endB false false n (.bool false) H E)
 ((binA .gtr tI cT true t3 z0).bind fun a9 =>
 splitK a9
 ((binA .sub tI cT true t3 (.int .i64 1)).bind fun a10 =>
 (ixA 1 t0 a10 H).bind fun a11 =>
 (loadA false 1 a11 H).bind fun a12 =>
 (ixA 1 t0 t3 H).bind fun a13 =>
 (loadA false 1 a13 H).bind fun a14 =>
 (binA .geq tI cT false a12 a14).bind fun a15 =>
 condK a15
 (endB false false n (.bool false) H E)
 ((binA .add tI cT true t3 (.int .i64 1)).bind fun a16 =>
 ref17_May_J4 n t0 a16 H E))
 ((binA .add tI cT true t3 (.int .i64 1)).bind fun a17 =>
 ref17_May_J4 n t0 a17 H E))))
 (endB false false n (.bool true) H E)) = some r) : ref17_May_J4 n t0 t3 H E = some r :=
 loop_step' (by kernel_rfl) hh
theorem ref17_May_of {x0 : AV} (hh : (fun n => (
 (lenV x0 H).bind fun a1 =>
 (binA .lss tI cT true a1 (.int .i64 1)).bind fun a2 =>
 splitK a2
 (endB false false n (.bool false) H [])
 ((lenV x0 H).bind fun a3 =>
 (binA .gtr tI cT true a3 (.int .i64 7)).bind fun a4 =>
 condK a4
 (endB false false n (.bool false) H [])
 (ref17_May_J4 n x0 z0 H [])))) (List.length H) = some r) : EV C n_ref17_May [x0] H = some r :=
 EV_of_fnK' (fn := Tryz.f73) (by kernel_rfl) (by kernel_rfl) (by kernel_rfl) hh
noncomputable def ref17_Of_J5 (n : Nat) (t0 t4 t5 : AV) (H : List AObj) (E : List Nat) : Option R3 :=
 lK 74 Tryz.f74 [1, 1, 1, 0, 1, 0] n
 ⟨pat 29 [(0, t0), (4, t4), (5, t5)], H, E⟩
theorem ref17_Of_J5_of {t0 t4 t5 : AV} (hh : (
 (lenV t0 H).bind fun a1 =>
 (binA .lss tI cT false t5 a1).bind fun a2 =>
 condK a2
 ((ixA 1 t0 t5 H).bind fun a3 =>
 (loadA false 1 a3 H).bind fun a4 =>
 (cvI .i64 a4).bind fun a5 =>
 litK 1 1 z0 [(0, a5)] H fun a6 H6 E6 =>
 appK 1 8 t4 a6 H6 fun a7 H7 E7 =>
 (binA .add tI cT true t5 (.int .i64 1)).bind fun a8 =>
 ref17_Of_J5 n t0 a7 a8 H7 ((E7 ++ (E6 ++ [])) ++ E))
 (callK (EV C) false n_ref17_May [t4] H fun a9 H9 E9 =>
 (unA .not a9).bind fun a10 =>
 condK a10
 (endB false false n (.tup [.nils, (.bool false)]) H9 (E9 ++ E))
 (endB false false n (.tup [t4, (.bool true)]) H9 (E9 ++ E)))) = some r) : ref17_Of_J5 n t0 t4 t5 H E = some r :=
 loop_step' (by kernel_rfl) hh
theorem ref17_Of_of {x0 : AV} (hh : (fun n => (
 (lenV x0 H).bind fun a1 =>
 (binA .gtr tI cT true a1 (.int .i64 7)).bind fun a2 =>
 condK a2
 (endB false false n (.tup [.nils, (.bool false)]) H [])
 (ref17_Of_J5 n x0 (.slc (List.length H) 0 0 0) z0 (H ++ [.vrow]) []))) (List.length H) = some r) : EV C n_ref17_Of [x0] H = some r :=
 EV_of_fnK' (fn := Tryz.f74) (by kernel_rfl) (by kernel_rfl) (by kernel_rfl) hh
noncomputable def ref18_SameEntries_J4 (n : Nat) (t0 t1 t5 : AV) (H : List AObj) (E : List Nat) : Option R3 :=
 lK 75 Tryz.f75 [1, 1, 0, 1, 0] n
 ⟨pat 56 [(0, t0), (1, t1), (5, t5)], H, E⟩
theorem ref18_SameEntries_J4_of {t0 t1 t5 : AV} (hh : (
 (lenV t0 H).bind fun a1 =>
 (binA .lss tI cT false t5 a1).bind fun a2 =>
 condK a2
 ((ixA 3 t0 t5 H).bind fun a3 =>
 (offA a3 0).bind fun a4 =>
 (loadA false 1 a4 H).bind fun a5 =>
 (ixA 3 t1 t5 H).bind fun a6 =>
 (offA a6 0).bind fun a7 =>
 (loadA false 1 a7 H).bind fun a8 =>
 (binA .neq tI cT false a5 a8).bind fun a9 =>
 splitK a9
 (endB false false n (.bool false) H E)
 ((ixA 3 t0 t5 H).bind fun a10 =>
 (offA a10 1).bind fun a11 =>
 (loadA false 1 a11 H).bind fun a12 =>
 (ixA 3 t1 t5 H).bind fun a13 =>
 (offA a13 1).bind fun a14 =>
 (loadA false 1 a14 H).bind fun a15 =>
 (binA .neq tI cT false a12 a15).bind fun a16 =>
 splitK a16
 (endB false false n (.bool false) H E)
 ((ixA 3 t0 t5 H).bind fun a17 =>
 (offA a17 2).bind fun a18 =>
 (loadA false 1 a18 H).bind fun a19 =>
 (cvL a19 H).bind fun a20 =>
 (ixA 3 t1 t5 H).bind fun a21 =>
 (offA a21 2).bind fun a22 =>
 (loadA false 1 a22 H).bind fun a23 =>
 (cvL a23 H).bind fun a24 =>
 (binA .neq Go.TypeDesc.string cT false a20 a24).bind fun a25 =>
 condK a25
 (endB false false n (.bool false) H E)
 ((binA .add tI cT true t5 (.int .i64 1)).bind fun a26 =>
 ref18_SameEntries_J4 n t0 t1 a26 H E))))
 (endB false false n (.bool true) H E)) = some r) : ref18_SameEntries_J4 n t0 t1 t5 H E = some r :=
 loop_step' (by kernel_rfl) hh
theorem ref18_SameEntries_of {x0 x1 : AV} (hh : (fun n => (
 (lenV x0 H).bind fun a1 =>
 (lenV x1 H).bind fun a2 =>
 (binA .neq tI cT false a1 a2).bind fun a3 =>
 condK a3
 (endB false false n (.bool false) H [])
 (ref18_SameEntries_J4 n x0 x1 z0 H []))) (List.length H) = some r) : EV C n_ref18_SameEntries [x0, x1] H = some r :=
 EV_of_fnK' (fn := Tryz.f75) (by kernel_rfl) (by kernel_rfl) (by kernel_rfl) hh
theorem ref19_timeout_of {x0 : AV} (hh : (fun n => (
 (binA .rem tI cT true x0 (.int .i64 10)).bind fun a1 =>
 (binA .add tI cT true a1 (.int .i64 10)).bind fun a2 =>
 (binA .rem tI cT true a2 (.int .i64 10)).bind fun a3 =>
 (binA .add tI cT true (.int .i64 10) a3).bind fun a4 =>
 endB false false n a4 H [])) (List.length H) = some r) : EV C n_ref19_timeout [x0] H = some r :=
 EV_of_fnK' (fn := Tryz.f76) (by kernel_rfl) (by kernel_rfl) (by kernel_rfl) hh
theorem ref19_Run_most_of {x0 x1 : AV} (hh : (fun n => (
 callK (EV C) false n_ref19_Run_members [x0] H fun a1 H1 E1 =>
 callK (EV C) false n_ref17_Most [a1, x1] H1 fun a2 H2 E2 =>
 endB false false n a2 H2 (E2 ++ (E1 ++ [])))) (List.length H) = some r) : EV C n_ref19_Run_most [x0, x1] H = some r :=
 EV_of_fnK' (fn := Tryz.f77) (by kernel_rfl) (by kernel_rfl) (by kernel_rfl) hh
noncomputable def ref19_Run_leads_J8 (n : Nat) (t0 t2 t3 : AV) (H : List AObj) (E : List Nat) : Option R3 :=
 lK 78 Tryz.f78 [1, 1, 1, 1, 1, 1, 0, 1, 0] n
 ⟨pat 53 [(0, t0), (2, t2), (3, t3)], H, E⟩
theorem ref19_Run_leads_J8_of {t0 t2 t3 : AV} (hh : (
 (binA .lss tI cT true t3 (.int .i64 8)).bind fun a1 =>
 condK a1
 ((nilA t0).bind fun a2 =>
 (offA a2 0).bind fun a3 =>
 (offA a3 11).bind fun a4 =>
 (arA 8 1 a4 t3).bind fun a5 =>
 stoK 1 a5 t2 H fun H6 E6 =>
 (nilA t0).bind fun a7 =>
 (offA a7 0).bind fun a8 =>
 (offA a8 19).bind fun a9 =>
 (arA 8 1 a9 t3).bind fun a10 =>
 stoK 1 a10 z0 H6 fun H11 E11 =>
 (binA .add tI cT true t3 (.int .i64 1)).bind fun a12 =>
 ref19_Run_leads_J8 n t0 t2 a12 H11 ((E11 ++ (E6 ++ [])) ++ E))
 (callK (EV C) false n_ref19_Run_add [t0, z0, .nils] H fun a13 H13 E13 =>
 callK (EV C) false n_ref19_Run_counts [t0] H13 fun a14 H14 E14 =>
 callK (EV C) false n_ref19_Run_sendAll [t0] H14 fun a15 H15 E15 =>
 endB false false n (.tup []) H15 (E15 ++ (E14 ++ (E13 ++ E))))) = some r) : ref19_Run_leads_J8 n t0 t2 t3 H E = some r :=
 loop_step' (by kernel_rfl) hh
theorem ref19_Run_leads_of {x0 : AV} (hh : (fun n => (
 (nilA x0).bind fun a1 =>
 (offA a1 0).bind fun a2 =>
 (offA a2 3).bind fun a3 =>
 stoK 1 a3 (.int .i64 2) H fun H4 E4 =>
 (nilA x0).bind fun a5 =>
 (offA a5 0).bind fun a6 =>
 (offA a6 0).bind fun a7 =>
 (loadA false 1 a7 H4).bind fun a8 =>
 (nilA x0).bind fun a9 =>
 (offA a9 0).bind fun a10 =>
 (offA a10 4).bind fun a11 =>
 stoK 1 a11 a8 H4 fun H12 E12 =>
 (nilA x0).bind fun a13 =>
 (offA a13 0).bind fun a14 =>
 (offA a14 27).bind fun a15 =>
 stoK 1 a15 z0 H12 fun H16 E16 =>
 (nilA x0).bind fun a17 =>
 (offA a17 0).bind fun a18 =>
 (offA a18 10).bind fun a19 =>
 stoK 1 a19 .nils H16 fun H20 E20 =>
 callK (EV C) false n_ref19_Run_last [x0] H20 fun a21 H21 E21 =>
 (binA .add tI cT true a21 (.int .i64 1)).bind fun a22 =>
 (binA .gtr tI cT true a22 (.int .i64 1152921504606846976)).bind fun a23 =>
 condK a23
 (ref19_Run_leads_J8 n x0 (.int .i64 1152921504606846976) z0 H21 (E21 ++ (E20 ++ (E16 ++ (E12 ++ (E4 ++ []))))))
 (ref19_Run_leads_J8 n x0 a22 z0 H21 (E21 ++ (E20 ++ (E16 ++ (E12 ++ (E4 ++ [])))))))) (List.length H) = some r) : EV C n_ref19_Run_leads [x0] H = some r :=
 EV_of_fnK' (fn := Tryz.f78) (by kernel_rfl) (by kernel_rfl) (by kernel_rfl) hh
theorem ref19_Run_say_of {x0 x1 x2 : AV} (hh : (fun n => (
 newK x2 H fun a1 H1 E1 =>
 (nilA x0).bind fun a2 =>
 (offA a2 0).bind fun a3 =>
 (offA a3 0).bind fun a4 =>
 (loadA false 1 a4 H1).bind fun a5 =>
 (offA a1 1).bind fun a6 =>
 stoK 1 a6 a5 H1 fun H7 E7 =>
 (offA a1 2).bind fun a8 =>
 stoK 1 a8 x1 H7 fun H9 E9 =>
 (nilA x0).bind fun a10 =>
 (offA a10 0).bind fun a11 =>
 (offA a11 1).bind fun a12 =>
 (loadA false 1 a12 H9).bind fun a13 =>
 (offA a1 3).bind fun a14 =>
 stoK 1 a14 a13 H9 fun H15 E15 =>
 (nilA x0).bind fun a16 =>
 (offA a16 29).bind fun a17 =>
 (loadA false 1 a17 H15).bind fun a18 =>
 (loadA true 17 a1 H15).bind fun a19 =>
 (litD 17 1 (.agg [z0, z0, z0, z0, z0, z0, z0, (.bool false), .nils, .nils, z0, .nils, z0, .nils, .nils, .nils, .nils]) [(0, a19)] H15).bind fun a20 =>
 appK 17 248 a18 a20 H15 fun a21 H21 E21 =>
 (nilA x0).bind fun a22 =>
 (offA a22 29).bind fun a23 =>
 stoK 1 a23 a21 H21 fun H24 E24 =>
 endB false false n (.tup []) H24 (E24 ++ (E21 ++ (E15 ++ (E9 ++ (E7 ++ (E1 ++ [])))))))) (List.length H) = some r) : EV C n_ref19_Run_say [x0, x1, x2] H = some r :=
 EV_of_fnK' (fn := Tryz.f79) (by kernel_rfl) (by kernel_rfl) (by kernel_rfl) hh
end Go.Pm
