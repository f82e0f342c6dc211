/- A part of the proof: what the functions of the program answer, as plain lists and numbers. -/
import Derived.Test.YtndkpoacbheemaaGreatP8
namespace Go.Pm
set_option linter.unusedVariables false
open Go.Proofs
variable {r : R3} {n : Nat} {H : List AObj} {E : List Nat}
set_option linter.unusedVariables false
set_option maxRecDepth 100000
noncomputable def ref18_Check_J6 (n : Nat) (t1 t3 t5 : AV) (H : List AObj) (E : List Nat) : Option R3 :=
 lK 25 Tryz.f25 [1, 1, 1, 1, 0, 1, 0] n
 ⟨pat 109 [(1, t1), (3, t3), (5, t5)], H, E⟩
theorem ref18_Check_J6_of {t1 t3 t5 : AV} (hh : (
 (offA t1 3).bind fun a1 =>
 (loadA false 1 a1 H).bind fun a2 =>
 (lenV a2 H).bind fun a3 =>
 (binA .lss tI cT false t5 a3).bind fun a4 =>
 condK a4
 ((offA t1 3).bind fun a5 =>
 (loadA false 1 a5 H).bind fun a6 =>
 (ixA 3 a6 t5 H).bind fun a7 =>
 (loadA true 3 a7 H).bind fun a8 =>
 newK (.agg [z0, z0, .nils]) H fun a9 H9 E9 =>
 stoK 3 a9 a8 H9 fun H10 E10 =>
 (offA a9 0).bind fun a11 =>
 (loadA false 1 a11 H10).bind fun a12 =>
 (binA .lss tI cT true a12 (.int .i64 1)).bind fun a13 =>
 splitK a13
 (endB false false n (.bool false) H10 ((E10 ++ (E9 ++ [])) ++ E))
 ((offA a9 0).bind fun a14 =>
 (loadA false 1 a14 H10).bind fun a15 =>
 (binA .gtr tI cT true a15 (.int .i64 1152921504606846976)).bind fun a16 =>
 splitK a16
 (endB false false n (.bool false) H10 ((E10 ++ (E9 ++ [])) ++ E))
 ((offA a9 0).bind fun a17 =>
 (loadA false 1 a17 H10).bind fun a18 =>
 (offA t3 1).bind fun a19 =>
 (loadA false 1 a19 H10).bind fun a20 =>
 (binA .lss tI cT false a18 a20).bind fun a21 =>
 splitK a21
 (endB false false n (.bool false) H10 ((E10 ++ (E9 ++ [])) ++ E))
 ((binA .gtr tI cT true t5 z0).bind fun a22 =>
 splitK a22
 ((offA a9 0).bind fun a23 =>
 (loadA false 1 a23 H10).bind fun a24 =>
 (offA t1 3).bind fun a25 =>
 (loadA false 1 a25 H10).bind fun a26 =>
 (binA .sub tI cT true t5 (.int .i64 1)).bind fun a27 =>
 (ixA 3 a26 a27 H10).bind fun a28 =>
 (offA a28 0).bind fun a29 =>
 (loadA false 1 a29 H10).bind fun a30 =>
 (binA .lss tI cT false a24 a30).bind fun a31 =>
 splitK a31
 (endB false false n (.bool false) H10 ((E10 ++ (E9 ++ [])) ++ E))
 ((offA a9 1).bind fun a32 =>
 (loadA false 1 a32 H10).bind fun a33 =>
 (binA .lss tI cT true a33 z0).bind fun a34 =>
 splitK a34
 (endB false false n (.bool false) H10 ((E10 ++ (E9 ++ [])) ++ E))
 ((offA a9 1).bind fun a35 =>
 (loadA false 1 a35 H10).bind fun a36 =>
 (binA .gtr tI cT true a36 (.int .i64 2)).bind fun a37 =>
 condK a37
 (endB false false n (.bool false) H10 ((E10 ++ (E9 ++ [])) ++ E))
 ((offA a9 1).bind fun a38 =>
 (loadA false 1 a38 H10).bind fun a39 =>
 (binA .eql tI cT true a39 (.int .i64 2)).bind fun a40 =>
 condK a40
 ((offA a9 2).bind fun a41 =>
 (loadA false 1 a41 H10).bind fun a42 =>
 callK (EV C) false n_ref17_Of [a42] H10 fun a43 H43 E43 =>
 (extA a43 0).bind fun a44 =>
 (extA a43 1).bind fun a45 =>
 (unA .not a45).bind fun a46 =>
 condK a46
 (endB false false n (.bool false) H43 ((E43 ++ (E10 ++ (E9 ++ []))) ++ E))
 ((binA .add tI cT true t5 (.int .i64 1)).bind fun a47 =>
 condB (List.all (E43 ++ (E10 ++ (E9 ++ []))) (fun e => decide (List.length H ≤ e)) && (AV.bel (List.length H) t1 && (AV.bel (List.length H) t3 && (AV.bel (List.length H) a47 && true))))
 (ref18_Check_J6 n t1 t3 a47 (List.take (List.length H) H43) E)))
 ((binA .add tI cT true t5 (.int .i64 1)).bind fun a48 =>
 condB (List.all (E10 ++ (E9 ++ [])) (fun e => decide (List.length H ≤ e)) && (AV.bel (List.length H) t1 && (AV.bel (List.length H) t3 && (AV.bel (List.length H) a48 && true))))
 (ref18_Check_J6 n t1 t3 a48 (List.take (List.length H) H10) E))))))
 ((offA a9 1).bind fun a49 =>
 (loadA false 1 a49 H10).bind fun a50 =>
 (binA .lss tI cT true a50 z0).bind fun a51 =>
 splitK a51
 (endB false false n (.bool false) H10 ((E10 ++ (E9 ++ [])) ++ E))
 ((offA a9 1).bind fun a52 =>
 (loadA false 1 a52 H10).bind fun a53 =>
 (binA .gtr tI cT true a53 (.int .i64 2)).bind fun a54 =>
 condK a54
 (endB false false n (.bool false) H10 ((E10 ++ (E9 ++ [])) ++ E))
 ((offA a9 1).bind fun a55 =>
 (loadA false 1 a55 H10).bind fun a56 =>
 (binA .eql tI cT true a56 (.int .i64 2)).bind fun a57 =>
 condK a57
 ((offA a9 2).bind fun a58 =>
 (loadA false 1 a58 H10).bind fun a59 =>
 callK (EV C) false n_ref17_Of [a59] H10 fun a60 H60 E60 =>
 (extA a60 0).bind fun a61 =>
 (extA a60 1).bind fun a62 =>
 (unA .not a62).bind fun a63 =>
 condK a63
 (endB false false n (.bool false) H60 ((E60 ++ (E10 ++ (E9 ++ []))) ++ E))
 ((binA .add tI cT true t5 (.int .i64 1)).bind fun a64 =>
 condB (List.all (E60 ++ (E10 ++ (E9 ++ []))) (fun e => decide (List.length H ≤ e)) && (AV.bel (List.length H) t1 && (AV.bel (List.length H) t3 && (AV.bel (List.length H) a64 && true))))
 (ref18_Check_J6 n t1 t3 a64 (List.take (List.length H) H60) E)))
 ((binA .add tI cT true t5 (.int .i64 1)).bind fun a65 =>
 condB (List.all (E10 ++ (E9 ++ [])) (fun e => decide (List.length H ≤ e)) && (AV.bel (List.length H) t1 && (AV.bel (List.length H) t3 && (AV.bel (List.length H) a65 && true))))
 (ref18_Check_J6 n t1 t3 a65 (List.take (List.length H) H10) E)))))))))
 (endB false false n (.bool true) H E)) = some r) : ref18_Check_J6 n t1 t3 t5 H E = some r :=
 loop_step' (by kernel_rfl) hh
theorem ref18_Check_of {x0 : AV} (hh : (fun n => (
 newK x0 H fun a1 H1 E1 =>
 (offA a1 0).bind fun a2 =>
 (loadA true 3 a2 H1).bind fun a3 =>
 newK (.agg [z0, z0, .nils]) H1 fun a4 H4 E4 =>
 stoK 3 a4 a3 H4 fun H5 E5 =>
 (offA a4 2).bind fun a6 =>
 (loadA false 1 a6 H5).bind fun a7 =>
 callK (EV C) false n_ref17_May [a7] H5 fun a8 H8 E8 =>
 (unA .not a8).bind fun a9 =>
 splitK a9
 (endB false false n (.bool false) H8 (E8 ++ (E5 ++ (E4 ++ (E1 ++ [])))))
 ((offA a4 0).bind fun a10 =>
 (loadA false 1 a10 H8).bind fun a11 =>
 (binA .lss tI cT true a11 z0).bind fun a12 =>
 splitK a12
 (endB false false n (.bool false) H8 (E8 ++ (E5 ++ (E4 ++ (E1 ++ [])))))
 ((offA a4 0).bind fun a13 =>
 (loadA false 1 a13 H8).bind fun a14 =>
 (binA .gtr tI cT true a14 (.int .i64 1152921504606846976)).bind fun a15 =>
 splitK a15
 (endB false false n (.bool false) H8 (E8 ++ (E5 ++ (E4 ++ (E1 ++ [])))))
 ((offA a4 1).bind fun a16 =>
 (loadA false 1 a16 H8).bind fun a17 =>
 (binA .lss tI cT true a17 z0).bind fun a18 =>
 splitK a18
 (endB false false n (.bool false) H8 (E8 ++ (E5 ++ (E4 ++ (E1 ++ [])))))
 ((offA a4 1).bind fun a19 =>
 (loadA false 1 a19 H8).bind fun a20 =>
 (binA .gtr tI cT true a20 (.int .i64 1152921504606846976)).bind fun a21 =>
 splitK a21
 (endB false false n (.bool false) H8 (E8 ++ (E5 ++ (E4 ++ (E1 ++ [])))))
 ((offA a1 3).bind fun a22 =>
 (loadA false 1 a22 H8).bind fun a23 =>
 (lenV a23 H8).bind fun a24 =>
 (offA a4 0).bind fun a25 =>
 (loadA false 1 a25 H8).bind fun a26 =>
 (binA .sub tI cT true (.int .i64 1152921504606846976) a26).bind fun a27 =>
 (binA .gtr tI cT false a24 a27).bind fun a28 =>
 condK a28
 (endB false false n (.bool false) H8 (E8 ++ (E5 ++ (E4 ++ (E1 ++ [])))))
 (ref18_Check_J6 n a1 a4 z0 H8 (E8 ++ (E5 ++ (E4 ++ (E1 ++ [])))))))))))) (List.length H) = some r) : EV C n_ref18_Check [x0] H = some r :=
 EV_of_fnK' (fn := Tryz.f25) (by kernel_rfl) (by kernel_rfl) (by kernel_rfl) hh
theorem ref18_Last_of {x0 : AV} (hh : (fun n => (
 newK x0 H fun a1 H1 E1 =>
 (offA a1 0).bind fun a2 =>
 (offA a2 0).bind fun a3 =>
 (loadA false 1 a3 H1).bind fun a4 =>
 (offA a1 3).bind fun a5 =>
 (loadA false 1 a5 H1).bind fun a6 =>
 (lenV a6 H1).bind fun a7 =>
 (binA .add tI cT false a4 a7).bind fun a8 =>
 endB false false n a8 H1 (E1 ++ []))) (List.length H) = some r) : EV C n_ref18_Last [x0] H = some r :=
 EV_of_fnK' (fn := Tryz.f26) (by kernel_rfl) (by kernel_rfl) (by kernel_rfl) hh
theorem ref19_count_of {x0 : AV} (hh : (fun n => (
 (binA .geq tI cT true x0 z0).bind fun a1 =>
 splitK a1
 ((binA .leq tI cT true x0 (.int .i64 1152921504606846976)).bind fun a2 =>
 endB false false n a2 H [])
 (endB false false n (.bool false) H []))) (List.length H) = some r) : EV C n_ref19_count [x0] H = some r :=
 EV_of_fnK' (fn := Tryz.f27) (by kernel_rfl) (by kernel_rfl) (by kernel_rfl) hh
theorem ref18_Term_of {x0 x1 : AV} (hh : (fun n => (
 newK x0 H fun a1 H1 E1 =>
 (offA a1 0).bind fun a2 =>
 (offA a2 0).bind fun a3 =>
 (loadA false 1 a3 H1).bind fun a4 =>
 (binA .sub tI cT false x1 a4).bind fun a5 =>
 (binA .eql tI cT true a5 z0).bind fun a6 =>
 condK a6
 ((offA a1 0).bind fun a7 =>
 (offA a7 1).bind fun a8 =>
 (loadA false 1 a8 H1).bind fun a9 =>
 endB false false n a9 H1 (E1 ++ []))
 ((offA a1 3).bind fun a10 =>
 (loadA false 1 a10 H1).bind fun a11 =>
 (binA .sub tI cT true a5 (.int .i64 1)).bind fun a12 =>
 (ixA 3 a11 a12 H1).bind fun a13 =>
 (offA a13 0).bind fun a14 =>
 (loadA false 1 a14 H1).bind fun a15 =>
 endB false false n a15 H1 (E1 ++ [])))) (List.length H) = some r) : EV C n_ref18_Term [x0, x1] H = some r :=
 EV_of_fnK' (fn := Tryz.f28) (by kernel_rfl) (by kernel_rfl) (by kernel_rfl) hh
noncomputable def ref17_Has_J2 (n : Nat) (t0 t1 t5 : AV) (H : List AObj) (E : List Nat) : Option R3 :=
 lK 29 Tryz.f29 [1, 0, 1, 0] n
 ⟨pat 18 [(0, t0), (1, t1), (5, t5)], H, E⟩
theorem ref17_Has_J2_of {t0 t1 t5 : AV} (hh : (
 (lenV t0 H).bind fun a1 =>
 (binA .lss tI cT false t5 a1).bind fun a2 =>
 condK a2
 ((ixA 1 t0 t5 H).bind fun a3 =>
 (loadA false 1 a3 H).bind fun a4 =>
 (binA .eql tI cT false a4 t1).bind fun a5 =>
 condK a5
 (endB false false n (.bool true) H E)
 ((binA .add tI cT true t5 (.int .i64 1)).bind fun a6 =>
 ref17_Has_J2 n t0 t1 a6 H E))
 (endB false false n (.bool false) H E)) = some r) : ref17_Has_J2 n t0 t1 t5 H E = some r :=
 loop_step' (by kernel_rfl) hh
theorem ref17_Has_of {x0 x1 : AV} (hh : (fun n => (
 ref17_Has_J2 n x0 x1 z0 H [])) (List.length H) = some r) : EV C n_ref17_Has [x0, x1] H = some r :=
 EV_of_fnK' (fn := Tryz.f29) (by kernel_rfl) (by kernel_rfl) (by kernel_rfl) hh
theorem ref18_Same_of {x0 x1 : AV} (hh : (fun n => (
 newK x0 H fun a1 H1 E1 =>
 newK x1 H1 fun a2 H2 E2 =>
 (offA a1 0).bind fun a3 =>
 (offA a3 0).bind fun a4 =>
 (loadA false 1 a4 H2).bind fun a5 =>
 (offA a2 0).bind fun a6 =>
 (offA a6 0).bind fun a7 =>
 (loadA false 1 a7 H2).bind fun a8 =>
 (binA .eql tI cT false a5 a8).bind fun a9 =>
 splitK a9
 ((offA a1 0).bind fun a10 =>
 (offA a10 1).bind fun a11 =>
 (loadA false 1 a11 H2).bind fun a12 =>
 (offA a2 0).bind fun a13 =>
 (offA a13 1).bind fun a14 =>
 (loadA false 1 a14 H2).bind fun a15 =>
 (binA .eql tI cT false a12 a15).bind fun a16 =>
 splitK a16
 ((offA a1 0).bind fun a17 =>
 (offA a17 2).bind fun a18 =>
 (loadA false 1 a18 H2).bind fun a19 =>
 (offA a2 0).bind fun a20 =>
 (offA a20 2).bind fun a21 =>
 (loadA false 1 a21 H2).bind fun a22 =>
 callK (EV C) false n_ref17_Same [a19, a22] H2 fun a23 H23 E23 =>
 splitK a23
 ((offA a1 3).bind fun a24 =>
 (loadA false 1 a24 H23).bind fun a25 =>
 (offA a2 3).bind fun a26 =>
 (loadA false 1 a26 H23).bind fun a27 =>
 callK (EV C) false n_ref18_SameEntries [a25, a27] H23 fun a28 H28 E28 =>
 endB false false n a28 H28 (E28 ++ (E23 ++ (E2 ++ (E1 ++ [])))))
 (endB false false n (.bool false) H23 (E23 ++ (E2 ++ (E1 ++ [])))))
 (endB false false n (.bool false) H2 (E2 ++ (E1 ++ []))))
 (endB false false n (.bool false) H2 (E2 ++ (E1 ++ []))))) (List.length H) = some r) : EV C n_ref18_Same [x0, x1] H = some r :=
 EV_of_fnK' (fn := Tryz.f30) (by kernel_rfl) (by kernel_rfl) (by kernel_rfl) hh
noncomputable def ref17_Same_J4 (n : Nat) (t0 t1 t5 : AV) (H : List AObj) (E : List Nat) : Option R3 :=
 lK 31 Tryz.f31 [1, 1, 0, 1, 0] n
 ⟨pat 26 [(0, t0), (1, t1), (5, t5)], H, E⟩
theorem ref17_Same_J4_of {t0 t1 t5 : AV} (hh : (
 (lenV t0 H).bind fun a1 =>
 (binA .lss tI cT false t5 a1).bind fun a2 =>
 condK a2
 ((ixA 1 t0 t5 H).bind fun a3 =>
 (loadA false 1 a3 H).bind fun a4 =>
 (ixA 1 t1 t5 H).bind fun a5 =>
 (loadA false 1 a5 H).bind fun a6 =>
 (binA .neq tI cT false a4 a6).bind fun a7 =>
 condK a7
 (endB false false n (.bool false) H E)
 ((binA .add tI cT true t5 (.int .i64 1)).bind fun a8 =>
 ref17_Same_J4 n t0 t1 a8 H E))
 (endB false false n (.bool true) H E)) = some r) : ref17_Same_J4 n t0 t1 t5 H E = some r :=
 loop_step' (by kernel_rfl) hh
theorem ref17_Same_of {x0 x1 : AV} (hh : (fun n => (
 (lenV x0 H).bind fun a1 =>
 (lenV x1 H).bind fun a2 =>
 (binA .neq tI cT false a1 a2).bind fun a3 =>
 condK a3
 (endB false false n (.bool false) H [])
 (ref17_Same_J4 n x0 x1 z0 H []))) (List.length H) = some r) : EV C n_ref17_Same [x0, x1] H = some r :=
 EV_of_fnK' (fn := Tryz.f31) (by kernel_rfl) (by kernel_rfl) (by kernel_rfl) hh
theorem ref19_Run_last_of {x0 : AV} (hh : (fun n => (
 (nilA x0).bind fun a1 =>
 (offA a1 0).bind fun a2 =>
 (offA a2 5).bind fun a3 =>
 (loadA true 4 a3 H).bind fun a4 =>
 callK (EV C) false n_ref18_Last [a4] H fun a5 H5 E5 =>
 endB false false n a5 H5 (E5 ++ []))) (List.length H) = some r) : EV C n_ref19_Run_last [x0] H = some r :=
 EV_of_fnK' (fn := Tryz.f32) (by kernel_rfl) (by kernel_rfl) (by kernel_rfl) hh
noncomputable def ref19_Run_tick_J20 (n : Nat) (t0 t6 t7 : AV) (H : List AObj) (E : List Nat) : Option R3 :=
 lK 33 Tryz.f33 [1, 1, 1, 1, 1, 1, 1, 1, 1, 1, 1, 1, 1, 1, 1, 0] n
 ⟨pat 157 [(0, t0), (6, t6), (7, t7)], H, E⟩
theorem ref19_Run_tick_J20_of {t0 t6 t7 : AV} (hh : (
 (lenV t6 H).bind fun a1 =>
 (binA .lss tI cT false t7 a1).bind fun a2 =>
 condK a2
 ((ixA 1 t6 t7 H).bind fun a3 =>
 (loadA false 1 a3 H).bind fun a4 =>
 (nilA t0).bind fun a5 =>
 (offA a5 0).bind fun a6 =>
 (offA a6 0).bind fun a7 =>
 (loadA false 1 a7 H).bind fun a8 =>
 (binA .neq tI cT false a4 a8).bind fun a9 =>
 condK a9
 ((ixA 1 t6 t7 H).bind fun a10 =>
 (loadA false 1 a10 H).bind fun a11 =>
 callK (EV C) false n_ref19_Run_last [t0] H fun a12 H12 E12 =>
 drawK (((ixA 1 t6 t7 H12).bind fun a13 =>
 some a13) = some a10)
 (drawK (((loadA false 1 a10 H12).bind fun a14 =>
 some a14) = some a11)
 (callK (EV C) false n_ref19_Run_top [t0] H12 fun a15 H15 E15 =>
 drawK (((ixA 1 t6 t7 H15).bind fun a16 =>
 some a16) = some a10)
 (drawK (((loadA false 1 a10 H15).bind fun a17 =>
 some a17) = some a11)
 ((fillB (AV.cells (.agg [z0, z0, z0, z0, z0, z0, z0, (.bool false), .nils, .nils, z0, .nils, z0, .nils, .nils, .nils, .nils])) [(0, 1, (.int .i64 1)), (4, 1, a12), (5, 1, a15)]).bind fun c18 =>
 callK (EV C) false n_ref19_Run_say [t0, a11, (.agg c18)] H15 fun a19 H19 E19 =>
 (binA .add tI cT true t7 (.int .i64 1)).bind fun a20 =>
 ref19_Run_tick_J20 n t0 t6 a20 H19 ((E19 ++ (E15 ++ (E12 ++ []))) ++ E))))))
 ((binA .add tI cT true t7 (.int .i64 1)).bind fun a21 =>
 ref19_Run_tick_J20 n t0 t6 a21 H E))
 (endB false false n (.tup []) H E)) = some r) : ref19_Run_tick_J20 n t0 t6 t7 H E = some r :=
 loop_step' (by kernel_rfl) hh
theorem ref19_Run_tick_of {x0 x1 : AV} (hh : (fun n => (
 (nilA x0).bind fun a1 =>
 (offA a1 0).bind fun a2 =>
 (offA a2 27).bind fun a3 =>
 (loadA false 1 a3 H).bind fun a4 =>
 (binA .lss tI cT true a4 (.int .i64 1152921504606846976)).bind fun a5 =>
 condK a5
 ((nilA x0).bind fun a6 =>
 (offA a6 0).bind fun a7 =>
 (offA a7 27).bind fun a8 =>
 (loadA false 1 a8 H).bind fun a9 =>
 (binA .add tI cT true a9 (.int .i64 1)).bind fun a10 =>
 (nilA x0).bind fun a11 =>
 (offA a11 0).bind fun a12 =>
 (offA a12 27).bind fun a13 =>
 stoK 1 a13 a10 H fun H14 E14 =>
 (nilA x0).bind fun a15 =>
 (offA a15 0).bind fun a16 =>
 (offA a16 3).bind fun a17 =>
 (loadA false 1 a17 H14).bind fun a18 =>
 (binA .eql tI cT true a18 (.int .i64 2)).bind fun a19 =>
 condK a19
 ((nilA x0).bind fun a20 =>
 (offA a20 0).bind fun a21 =>
 (offA a21 27).bind fun a22 =>
 (loadA false 1 a22 H14).bind fun a23 =>
 (binA .geq tI cT true a23 (.int .i64 2)).bind fun a24 =>
 condK a24
 ((nilA x0).bind fun a25 =>
 (offA a25 0).bind fun a26 =>
 (offA a26 27).bind fun a27 =>
 stoK 1 a27 z0 H14 fun H28 E28 =>
 callK (EV C) false n_ref19_Run_sendAll [x0] H28 fun a29 H29 E29 =>
 endB false false n (.tup []) H29 (E29 ++ (E28 ++ (E14 ++ []))))
 (endB false false n (.tup []) H14 (E14 ++ [])))
 (callK (EV C) false n_ref19_Run_members [x0] H14 fun a30 H30 E30 =>
 (nilA x0).bind fun a31 =>
 (offA a31 0).bind fun a32 =>
 (offA a32 0).bind fun a33 =>
 (loadA false 1 a33 H30).bind fun a34 =>
 drawK (((loadA false 1 a33 H14).bind fun a35 =>
 some a35) = some a34)
 ((callD (EV C) n_ref17_Has [a30, a34] H30).bind fun a36 =>
 (unA .not a36).bind fun a37 =>
 splitK a37
 (endB false false n (.tup []) H30 (E30 ++ (E14 ++ [])))
 ((nilA x0).bind fun a38 =>
 (offA a38 0).bind fun a39 =>
 (offA a39 27).bind fun a40 =>
 (loadA false 1 a40 H30).bind fun a41 =>
 (nilA x0).bind fun a42 =>
 (offA a42 0).bind fun a43 =>
 (offA a43 28).bind fun a44 =>
 (loadA false 1 a44 H30).bind fun a45 =>
 (binA .lss tI cT false a41 a45).bind fun a46 =>
 splitK a46
 (endB false false n (.tup []) H30 (E30 ++ (E14 ++ [])))
 ((nilA x0).bind fun a47 =>
 (offA a47 0).bind fun a48 =>
 (offA a48 1).bind fun a49 =>
 (loadA false 1 a49 H30).bind fun a50 =>
 (binA .geq tI cT true a50 (.int .i64 1152921504606846976)).bind fun a51 =>
 condK a51
 (endB false false n (.tup []) H30 (E30 ++ (E14 ++ [])))
 ((nilA x0).bind fun a52 =>
 (offA a52 0).bind fun a53 =>
 (offA a53 1).bind fun a54 =>
 (loadA false 1 a54 H30).bind fun a55 =>
 (binA .add tI cT true a55 (.int .i64 1)).bind fun a56 =>
 (nilA x0).bind fun a57 =>
 (offA a57 0).bind fun a58 =>
 (offA a58 1).bind fun a59 =>
 stoK 1 a59 a56 H30 fun H60 E60 =>
 (nilA x0).bind fun a61 =>
 (offA a61 0).bind fun a62 =>
 (offA a62 3).bind fun a63 =>
 stoK 1 a63 (.int .i64 1) H60 fun H64 E64 =>
 (nilA x0).bind fun a65 =>
 (offA a65 0).bind fun a66 =>
 (offA a66 0).bind fun a67 =>
 (loadA false 1 a67 H64).bind fun a68 =>
 (nilA x0).bind fun a69 =>
 (offA a69 0).bind fun a70 =>
 (offA a70 2).bind fun a71 =>
 stoK 1 a71 a68 H64 fun H72 E72 =>
 (nilA x0).bind fun a73 =>
 (offA a73 0).bind fun a74 =>
 (offA a74 0).bind fun a75 =>
 (loadA false 1 a75 H72).bind fun a76 =>
 litK 1 1 z0 [(0, a76)] H72 fun a77 H77 E77 =>
 (nilA x0).bind fun a78 =>
 (offA a78 0).bind fun a79 =>
 (offA a79 10).bind fun a80 =>
 stoK 1 a80 a77 H77 fun H81 E81 =>
 (nilA x0).bind fun a82 =>
 (offA a82 0).bind fun a83 =>
 (offA a83 4).bind fun a84 =>
 stoK 1 a84 z0 H81 fun H85 E85 =>
 (nilA x0).bind fun a86 =>
 (offA a86 0).bind fun a87 =>
 (offA a87 27).bind fun a88 =>
 stoK 1 a88 z0 H85 fun H89 E89 =>
 callK (EV C) false n_ref19_timeout [x1] H89 fun a90 H90 E90 =>
 (nilA x0).bind fun a91 =>
 (offA a91 0).bind fun a92 =>
 (offA a92 28).bind fun a93 =>
 stoK 1 a93 a90 H90 fun H94 E94 =>
 (nilA x0).bind fun a95 =>
 (offA a95 0).bind fun a96 =>
 (offA a96 10).bind fun a97 =>
 (loadA false 1 a97 H94).bind fun a98 =>
 callK (EV C) false n_ref19_Run_most [x0, a98] H94 fun a99 H99 E99 =>
 condK a99
 (callK (EV C) false n_ref19_Run_leads [x0] H99 fun a100 H100 E100 =>
 endB false false n (.tup []) H100 (E100 ++ (E99 ++ (E94 ++ (E90 ++ (E89 ++ (E85 ++ (E81 ++ (E77 ++ (E72 ++ (E64 ++ (E60 ++ (E30 ++ (E14 ++ []))))))))))))))
 (callK (EV C) false n_ref19_Run_members [x0] H99 fun a101 H101 E101 =>
 ref19_Run_tick_J20 n x0 a101 z0 H101 (E101 ++ (E99 ++ (E94 ++ (E90 ++ (E89 ++ (E85 ++ (E81 ++ (E77 ++ (E72 ++ (E64 ++ (E60 ++ (E30 ++ (E14 ++ []))))))))))))))))))))
 ((nilA x0).bind fun a102 =>
 (offA a102 0).bind fun a103 =>
 (offA a103 3).bind fun a104 =>
 (loadA false 1 a104 H).bind fun a105 =>
 (binA .eql tI cT true a105 (.int .i64 2)).bind fun a106 =>
 condK a106
 ((nilA x0).bind fun a107 =>
 (offA a107 0).bind fun a108 =>
 (offA a108 27).bind fun a109 =>
 (loadA false 1 a109 H).bind fun a110 =>
 (binA .geq tI cT true a110 (.int .i64 2)).bind fun a111 =>
 condK a111
 ((nilA x0).bind fun a112 =>
 (offA a112 0).bind fun a113 =>
 (offA a113 27).bind fun a114 =>
 stoK 1 a114 z0 H fun H115 E115 =>
 callK (EV C) false n_ref19_Run_sendAll [x0] H115 fun a116 H116 E116 =>
 endB false false n (.tup []) H116 (E116 ++ (E115 ++ [])))
 (endB false false n (.tup []) H []))
 (callK (EV C) false n_ref19_Run_members [x0] H fun a117 H117 E117 =>
 (nilA x0).bind fun a118 =>
 (offA a118 0).bind fun a119 =>
 (offA a119 0).bind fun a120 =>
 (loadA false 1 a120 H117).bind fun a121 =>
 drawK (((loadA false 1 a120 H).bind fun a122 =>
 some a122) = some a121)
 ((callD (EV C) n_ref17_Has [a117, a121] H117).bind fun a123 =>
 (unA .not a123).bind fun a124 =>
 splitK a124
 (endB false false n (.tup []) H117 (E117 ++ []))
 ((nilA x0).bind fun a125 =>
 (offA a125 0).bind fun a126 =>
 (offA a126 27).bind fun a127 =>
 (loadA false 1 a127 H117).bind fun a128 =>
 (nilA x0).bind fun a129 =>
 (offA a129 0).bind fun a130 =>
 (offA a130 28).bind fun a131 =>
 (loadA false 1 a131 H117).bind fun a132 =>
 (binA .lss tI cT false a128 a132).bind fun a133 =>
 splitK a133
 (endB false false n (.tup []) H117 (E117 ++ []))
 ((nilA x0).bind fun a134 =>
 (offA a134 0).bind fun a135 =>
 (offA a135 1).bind fun a136 =>
 (loadA false 1 a136 H117).bind fun a137 =>
 (binA .geq tI cT true a137 (.int .i64 1152921504606846976)).bind fun a138 =>
 condK a138
 (endB false false n (.tup []) H117 (E117 ++ []))
 ((nilA x0).bind fun a139 =>
 (offA a139 0).bind fun a140 =>
 (offA a140 1).bind fun a141 =>
 (loadA false 1 a141 H117).bind fun a142 =>
 (binA .add tI cT true a142 (.int .i64 1)).bind fun a143 =>
 (nilA x0).bind fun a144 =>
 (offA a144 0).bind fun a145 =>
 (offA a145 1).bind fun a146 =>
 stoK 1 a146 a143 H117 fun H147 E147 =>
 (nilA x0).bind fun a148 =>
 (offA a148 0).bind fun a149 =>
 (offA a149 3).bind fun a150 =>
 stoK 1 a150 (.int .i64 1) H147 fun H151 E151 =>
 (nilA x0).bind fun a152 =>
 (offA a152 0).bind fun a153 =>
 (offA a153 0).bind fun a154 =>
 (loadA false 1 a154 H151).bind fun a155 =>
 (nilA x0).bind fun a156 =>
 (offA a156 0).bind fun a157 =>
 (offA a157 2).bind fun a158 =>
 stoK 1 a158 a155 H151 fun H159 E159 =>
 (nilA x0).bind fun a160 =>
 (offA a160 0).bind fun a161 =>
 (offA a161 0).bind fun a162 =>
 (loadA false 1 a162 H159).bind fun a163 =>
 litK 1 1 z0 [(0, a163)] H159 fun a164 H164 E164 =>
 (nilA x0).bind fun a165 =>
 (offA a165 0).bind fun a166 =>
 (offA a166 10).bind fun a167 =>
 stoK 1 a167 a164 H164 fun H168 E168 =>
 (nilA x0).bind fun a169 =>
 (offA a169 0).bind fun a170 =>
 (offA a170 4).bind fun a171 =>
 stoK 1 a171 z0 H168 fun H172 E172 =>
 (nilA x0).bind fun a173 =>
 (offA a173 0).bind fun a174 =>
 (offA a174 27).bind fun a175 =>
 stoK 1 a175 z0 H172 fun H176 E176 =>
 callK (EV C) false n_ref19_timeout [x1] H176 fun a177 H177 E177 =>
 (nilA x0).bind fun a178 =>
 (offA a178 0).bind fun a179 =>
 (offA a179 28).bind fun a180 =>
 stoK 1 a180 a177 H177 fun H181 E181 =>
 (nilA x0).bind fun a182 =>
 (offA a182 0).bind fun a183 =>
 (offA a183 10).bind fun a184 =>
 (loadA false 1 a184 H181).bind fun a185 =>
 callK (EV C) false n_ref19_Run_most [x0, a185] H181 fun a186 H186 E186 =>
 condK a186
 (callK (EV C) false n_ref19_Run_leads [x0] H186 fun a187 H187 E187 =>
 endB false false n (.tup []) H187 (E187 ++ (E186 ++ (E181 ++ (E177 ++ (E176 ++ (E172 ++ (E168 ++ (E164 ++ (E159 ++ (E151 ++ (E147 ++ (E117 ++ [])))))))))))))
 (callK (EV C) false n_ref19_Run_members [x0] H186 fun a188 H188 E188 =>
 ref19_Run_tick_J20 n x0 a188 z0 H188 (E188 ++ (E186 ++ (E181 ++ (E177 ++ (E176 ++ (E172 ++ (E168 ++ (E164 ++ (E159 ++ (E151 ++ (E147 ++ (E117 ++ []))))))))))))))))))))) (List.length H) = some r) : EV C n_ref19_Run_tick [x0, x1] H = some r :=
 EV_of_fnK' (fn := Tryz.f33) (by kernel_rfl) (by kernel_rfl) (by kernel_rfl) hh
theorem ref19_Run_add_of {x0 x1 x2 : AV} (hh : (fun n => (
 callK (EV C) false n_ref19_Run_last [x0] H fun a1 H1 E1 =>
 (binA .lss tI cT true a1 (.int .i64 1152921504606846976)).bind fun a2 =>
 condK a2
 (rawK 3 0 (.agg [z0, z0, .nils]) [] H1 fun a3 H3 E3 =>
 (nilA x0).bind fun a4 =>
 (offA a4 0).bind fun a5 =>
 (offA a5 5).bind fun a6 =>
 (offA a6 3).bind fun a7 =>
 (loadA false 1 a7 H3).bind fun a8 =>
 appK 3 40 a3 a8 H3 fun a9 H9 E9 =>
 (nilA x0).bind fun a10 =>
 (offA a10 0).bind fun a11 =>
 (offA a11 1).bind fun a12 =>
 (loadA false 1 a12 H9).bind fun a13 =>
 (fillB (AV.cells (.agg [z0, z0, .nils])) [(0, 1, a13), (1, 1, x1), (2, 1, x2)]).bind fun c14 =>
 litK 3 1 (.agg [z0, z0, .nils]) [(0, (.agg c14))] H9 fun a15 H15 E15 =>
 appK 3 40 a9 a15 H15 fun a16 H16 E16 =>
 frzK a16 H16 fun a17 H17 =>
 (nilA x0).bind fun a18 =>
 (offA a18 0).bind fun a19 =>
 (offA a19 5).bind fun a20 =>
 (offA a20 3).bind fun a21 =>
 stoK 1 a21 a17 H17 fun H22 E22 =>
 endB false false n (.tup []) H22 (E22 ++ (E16 ++ (E15 ++ (E9 ++ (E3 ++ (E1 ++ [])))))))
 (endB false false n (.tup []) H1 (E1 ++ [])))) (List.length H) = some r) : EV C n_ref19_Run_add [x0, x1, x2] H = some r :=
 EV_of_fnK' (fn := Tryz.f35) (by kernel_rfl) (by kernel_rfl) (by kernel_rfl) hh
end Go.Pm
