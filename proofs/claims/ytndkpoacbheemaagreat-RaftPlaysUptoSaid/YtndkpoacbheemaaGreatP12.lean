/- A part of the proof: what the functions of the program answer, as plain lists and numbers. -/
import Derived.Test.YtndkpoacbheemaaGreatP8
namespace Go.Pm
set_option linter.unusedVariables false
open Go.Proofs
variable {r : R3} {n : Nat} {H : List AObj} {E : List Nat}
set_option linter.unusedVariables false
set_option maxRecDepth 100000
noncomputable def ref19_Run_counts_J3 (n : Nat) (t0 t2 t3 : AV) (H : List AObj) (E : List Nat) : Option R3 :=
 lK 36 Tryz.f36 [1, 1, 0, 1, 0] n
 ⟨pat 104 [(0, t0), (2, t2), (3, t3)], H, E⟩
noncomputable def ref19_Run_counts_J7 (n : Nat) (Ha : List AObj) (Ea : List Nat) (t0 t2 t3 t4 t5 : AV) (H : List AObj) (E : List Nat) : Option R3 :=
 loopK Tryz.prog C.G (EV C) (C.hint 36) Tryz.f36 (cAt (bodyOf Tryz.f36) [1, 1, 0, 1, 0, 0, 1, 0, 0, 1, 0, 1, 0, 0]) (kAt Tryz.prog C.G (EV C) (C.hint 36) Tryz.f36 (bodyOf Tryz.f36) [1, 1, 0, 1, 0, 0, 1, 0, 0, 1, 0, 1, 0] [(Ha, Ea)] (endK Tryz.prog (C.hint 36) Tryz.f36 n))
 ⟨pat 104 [(0, t0), (2, t2), (3, t3), (4, t4), (5, t5)], H, E⟩
theorem ref19_Run_counts_J3_of {t0 t2 t3 : AV} (hh : (
 callK (EV C) false n_ref19_Run_last [t0] H fun a1 H1 E1 =>
 (binA .leq tI cT false t3 a1).bind fun a2 =>
 condK a2
 (ref19_Run_counts_J7 n H E t0 t2 t3 (.slc (List.length H1) 0 0 0) z0 (H1 ++ [.vrow]) (E1 ++ []))
 ((nilA t0).bind fun a3 =>
 (offA a3 0).bind fun a4 =>
 (offA a4 9).bind fun a5 =>
 stoK 1 a5 t2 H1 fun H6 E6 =>
 callK (EV C) false n_ref19_Run_members [t0] H6 fun a7 H7 E7 =>
 (nilA t0).bind fun a8 =>
 (offA a8 0).bind fun a9 =>
 (offA a9 0).bind fun a10 =>
 (loadA false 1 a10 H7).bind fun a11 =>
 drawK (((loadA false 1 a10 H6).bind fun a12 =>
 some a12) = some a11)
 ((callD (EV C) n_ref17_Has [a7, a11] H7).bind fun a13 =>
 callK (EV C) false n_ref19_Run_open [t0] H7 fun a14 H14 E14 =>
 (unA .not a13).bind fun a15 =>
 splitK a15
 ((unA .not a14).bind fun a16 =>
 condK a16
 ((nilA t0).bind fun a17 =>
 (offA a17 0).bind fun a18 =>
 (offA a18 3).bind fun a19 =>
 stoK 1 a19 z0 H14 fun H20 E20 =>
 (nilA t0).bind fun a21 =>
 (offA a21 0).bind fun a22 =>
 (offA a22 4).bind fun a23 =>
 stoK 1 a23 z0 H20 fun H24 E24 =>
 endB false false n (.tup []) H24 (E24 ++ (E20 ++ (E14 ++ (E7 ++ (E6 ++ ((E1 ++ []) ++ E)))))))
 (endB false false n (.tup []) H14 (E14 ++ (E7 ++ (E6 ++ ((E1 ++ []) ++ E))))))
 (endB false false n (.tup []) H14 (E14 ++ (E7 ++ (E6 ++ ((E1 ++ []) ++ E)))))))) = some r) : ref19_Run_counts_J3 n t0 t2 t3 H E = some r :=
 loop_step' (by kernel_rfl) hh
theorem ref19_Run_counts_J7_of {Ha : List AObj} {Ea : List Nat} {t0 t2 t3 t4 t5 : AV} (hh : (
 (binA .lss tI cT true t5 (.int .i64 8)).bind fun a1 =>
 condK a1
 ((nilA t0).bind fun a2 =>
 (offA a2 0).bind fun a3 =>
 (offA a3 19).bind fun a4 =>
 (arA 8 1 a4 t5).bind fun a5 =>
 (loadA false 1 a5 H).bind fun a6 =>
 (binA .geq tI cT false a6 t3).bind fun a7 =>
 condK a7
 (litK 1 1 z0 [(0, t5)] H fun a8 H8 E8 =>
 appK 1 8 t4 a8 H8 fun a9 H9 E9 =>
 (binA .add tI cT true t5 (.int .i64 1)).bind fun a10 =>
 ref19_Run_counts_J7 n Ha Ea t0 t2 t3 a9 a10 H9 ((E9 ++ (E8 ++ [])) ++ E))
 ((binA .add tI cT true t5 (.int .i64 1)).bind fun a11 =>
 ref19_Run_counts_J7 n Ha Ea t0 t2 t3 t4 a11 H E))
 (callK (EV C) false n_ref19_Run_most [t0, t4] H fun a12 H12 E12 =>
 splitK a12
 ((nilA t0).bind fun a13 =>
 (offA a13 0).bind fun a14 =>
 (offA a14 5).bind fun a15 =>
 (loadA true 4 a15 H12).bind fun a16 =>
 (callD (EV C) n_ref18_Term [a16, t3] H12).bind fun a17 =>
 (nilA t0).bind fun a18 =>
 (offA a18 0).bind fun a19 =>
 (offA a19 1).bind fun a20 =>
 (loadA false 1 a20 H12).bind fun a21 =>
 (binA .eql tI cT false a17 a21).bind fun a22 =>
 condK a22
 ((binA .add tI cT true t3 (.int .i64 1)).bind fun a23 =>
 condB (List.all (E12 ++ E) (fun e => decide (List.length Ha ≤ e)) && (AV.bel (List.length Ha) t0 && (AV.bel (List.length Ha) t3 && (AV.bel (List.length Ha) a23 && true))))
 (ref19_Run_counts_J3 n t0 t3 a23 (List.take (List.length Ha) H12) Ea))
 ((binA .add tI cT true t3 (.int .i64 1)).bind fun a24 =>
 condB (List.all (E12 ++ E) (fun e => decide (List.length Ha ≤ e)) && (AV.bel (List.length Ha) t0 && (AV.bel (List.length Ha) t2 && (AV.bel (List.length Ha) a24 && true))))
 (ref19_Run_counts_J3 n t0 t2 a24 (List.take (List.length Ha) H12) Ea)))
 ((binA .add tI cT true t3 (.int .i64 1)).bind fun a25 =>
 condB (List.all (E12 ++ E) (fun e => decide (List.length Ha ≤ e)) && (AV.bel (List.length Ha) t0 && (AV.bel (List.length Ha) t2 && (AV.bel (List.length Ha) a25 && true))))
 (ref19_Run_counts_J3 n t0 t2 a25 (List.take (List.length Ha) H12) Ea)))) = some r) : ref19_Run_counts_J7 n Ha Ea t0 t2 t3 t4 t5 H E = some r :=
 loop_step' (by kernel_rfl) hh
theorem ref19_Run_counts_of {x0 : AV} (hh : (fun n => (
 (nilA x0).bind fun a1 =>
 (offA a1 0).bind fun a2 =>
 (offA a2 0).bind fun a3 =>
 (loadA false 1 a3 H).bind fun a4 =>
 callK (EV C) false n_ref19_Run_last [x0] H fun a5 H5 E5 =>
 drawK (((loadA false 1 a3 H5).bind fun a6 =>
 some a6) = some a4)
 ((nilA x0).bind fun a7 =>
 (offA a7 0).bind fun a8 =>
 (offA a8 19).bind fun a9 =>
 (arA 8 1 a9 a4).bind fun a10 =>
 stoK 1 a10 a5 H5 fun H11 E11 =>
 (nilA x0).bind fun a12 =>
 (offA a12 0).bind fun a13 =>
 (offA a13 9).bind fun a14 =>
 (loadA false 1 a14 H11).bind fun a15 =>
 (nilA x0).bind fun a16 =>
 (offA a16 0).bind fun a17 =>
 (offA a17 9).bind fun a18 =>
 (loadA false 1 a18 H11).bind fun a19 =>
 (binA .add tI cT true a19 (.int .i64 1)).bind fun a20 =>
 ref19_Run_counts_J3 n x0 a15 a20 H11 (E11 ++ (E5 ++ []))))) (List.length H) = some r) : EV C n_ref19_Run_counts [x0] H = some r :=
 EV_of_fnK' (fn := Tryz.f36) (by kernel_rfl) (by kernel_rfl) (by kernel_rfl) hh
noncomputable def ref19_Run_sendAll_J2 (n : Nat) (t0 t2 t3 : AV) (H : List AObj) (E : List Nat) : Option R3 :=
 lK 37 Tryz.f37 [1, 1, 0] n
 ⟨pat 28 [(0, t0), (2, t2), (3, t3)], H, E⟩
theorem ref19_Run_sendAll_J2_of {t0 t2 t3 : AV} (hh : (
 (lenV t2 H).bind fun a1 =>
 (binA .lss tI cT false t3 a1).bind fun a2 =>
 condK a2
 ((ixA 1 t2 t3 H).bind fun a3 =>
 (loadA false 1 a3 H).bind fun a4 =>
 (nilA t0).bind fun a5 =>
 (offA a5 0).bind fun a6 =>
 (offA a6 0).bind fun a7 =>
 (loadA false 1 a7 H).bind fun a8 =>
 (binA .neq tI cT false a4 a8).bind fun a9 =>
 condK a9
 ((ixA 1 t2 t3 H).bind fun a10 =>
 (loadA false 1 a10 H).bind fun a11 =>
 callK (EV C) false n_ref19_Run_sendTo [t0, a11] H fun a12 H12 E12 =>
 (binA .add tI cT true t3 (.int .i64 1)).bind fun a13 =>
 ref19_Run_sendAll_J2 n t0 t2 a13 H12 ((E12 ++ []) ++ E))
 ((binA .add tI cT true t3 (.int .i64 1)).bind fun a14 =>
 ref19_Run_sendAll_J2 n t0 t2 a14 H E))
 (endB false false n (.tup []) H E)) = some r) : ref19_Run_sendAll_J2 n t0 t2 t3 H E = some r :=
 loop_step' (by kernel_rfl) hh
theorem ref19_Run_sendAll_of {x0 : AV} (hh : (fun n => (
 callK (EV C) false n_ref19_Run_members [x0] H fun a1 H1 E1 =>
 ref19_Run_sendAll_J2 n x0 a1 z0 H1 (E1 ++ []))) (List.length H) = some r) : EV C n_ref19_Run_sendAll [x0] H = some r :=
 EV_of_fnK' (fn := Tryz.f37) (by kernel_rfl) (by kernel_rfl) (by kernel_rfl) hh
theorem ref19_Run_members_of {x0 : AV} (hh : (fun n => (
 (nilA x0).bind fun a1 =>
 (offA a1 0).bind fun a2 =>
 (offA a2 5).bind fun a3 =>
 (loadA true 4 a3 H).bind fun a4 =>
 callK (EV C) false n_ref19_Run_last [x0] H fun a5 H5 E5 =>
 drawK (((loadA true 4 a3 H5).bind fun a6 =>
 some a6) = some a4)
 ((callD (EV C) n_ref18_Members [a4, a5] H5).bind fun a7 =>
 endB false false n a7 H5 (E5 ++ [])))) (List.length H) = some r) : EV C n_ref19_Run_members [x0] H = some r :=
 EV_of_fnK' (fn := Tryz.f38) (by kernel_rfl) (by kernel_rfl) (by kernel_rfl) hh
noncomputable def ref17_Step_J5 (n : Nat) (t0 t1 t5 t6 : AV) (H : List AObj) (E : List Nat) : Option R3 :=
 lK 39 Tryz.f39 [1, 1, 1, 0, 1, 0] n
 ⟨pat 30 [(0, t0), (1, t1), (5, t5), (6, t6)], H, E⟩
theorem ref17_Step_J5_of {t0 t1 t5 t6 : AV} (hh : (
 (binA .leq tI cT true t6 (.int .i64 7)).bind fun a1 =>
 condK a1
 (callK (EV C) false n_ref17_Has [t0, t6] H fun a2 H2 E2 =>
 callK (EV C) false n_ref17_Has [t1, t6] H2 fun a3 H3 E3 =>
 (binA .neq Go.TypeDesc.bool cT false a2 a3).bind fun a4 =>
 condK a4
 ((binA .add tI cT true t5 (.int .i64 1)).bind fun a5 =>
 (binA .add tI cT true t6 (.int .i64 1)).bind fun a6 =>
 ref17_Step_J5 n t0 t1 a5 a6 H3 ((E3 ++ (E2 ++ [])) ++ E))
 ((binA .add tI cT true t6 (.int .i64 1)).bind fun a7 =>
 ref17_Step_J5 n t0 t1 t5 a7 H3 ((E3 ++ (E2 ++ [])) ++ E)))
 ((binA .eql tI cT true t5 (.int .i64 1)).bind fun a8 =>
 endB false false n a8 H E)) = some r) : ref17_Step_J5 n t0 t1 t5 t6 H E = some r :=
 loop_step' (by kernel_rfl) hh
theorem ref17_Step_of {x0 x1 : AV} (hh : (fun n => (
 callK (EV C) false n_ref17_May [x0] H fun a1 H1 E1 =>
 (unA .not a1).bind fun a2 =>
 splitK a2
 (endB false false n (.bool false) H1 (E1 ++ []))
 (callK (EV C) false n_ref17_May [x1] H1 fun a3 H3 E3 =>
 (unA .not a3).bind fun a4 =>
 condK a4
 (endB false false n (.bool false) H3 (E3 ++ (E1 ++ [])))
 (ref17_Step_J5 n x0 x1 z0 (.int .i64 1) H3 (E3 ++ (E1 ++ [])))))) (List.length H) = some r) : EV C n_ref17_Step [x0, x1] H = some r :=
 EV_of_fnK' (fn := Tryz.f39) (by kernel_rfl) (by kernel_rfl) (by kernel_rfl) hh
noncomputable def ref19_Run_open_J2 (n : Nat) (t0 t3 : AV) (H : List AObj) (E : List Nat) : Option R3 :=
 lK 40 Tryz.f40 [1, 0, 1, 0] n
 ⟨pat 39 [(0, t0), (3, t3)], H, E⟩
theorem ref19_Run_open_J2_of {t0 t3 : AV} (hh : (
 (nilA t0).bind fun a1 =>
 (offA a1 0).bind fun a2 =>
 (offA a2 5).bind fun a3 =>
 (offA a3 3).bind fun a4 =>
 (loadA false 1 a4 H).bind fun a5 =>
 (lenV a5 H).bind fun a6 =>
 (binA .lss tI cT false t3 a6).bind fun a7 =>
 condK a7
 ((nilA t0).bind fun a8 =>
 (offA a8 0).bind fun a9 =>
 (offA a9 5).bind fun a10 =>
 (offA a10 3).bind fun a11 =>
 (loadA false 1 a11 H).bind fun a12 =>
 (ixA 3 a12 t3 H).bind fun a13 =>
 (offA a13 1).bind fun a14 =>
 (loadA false 1 a14 H).bind fun a15 =>
 (binA .eql tI cT true a15 (.int .i64 2)).bind fun a16 =>
 condK a16
 (endB false false n (.bool true) H E)
 ((binA .add tI cT true t3 (.int .i64 1)).bind fun a17 =>
 ref19_Run_open_J2 n t0 a17 H E))
 (endB false false n (.bool false) H E)) = some r) : ref19_Run_open_J2 n t0 t3 H E = some r :=
 loop_step' (by kernel_rfl) hh
theorem ref19_Run_open_of {x0 : AV} (hh : (fun n => (
 (nilA x0).bind fun a1 =>
 (offA a1 0).bind fun a2 =>
 (offA a2 9).bind fun a3 =>
 (loadA false 1 a3 H).bind fun a4 =>
 (nilA x0).bind fun a5 =>
 (offA a5 0).bind fun a6 =>
 (offA a6 5).bind fun a7 =>
 (offA a7 0).bind fun a8 =>
 (offA a8 0).bind fun a9 =>
 (loadA false 1 a9 H).bind fun a10 =>
 (binA .sub tI cT false a4 a10).bind fun a11 =>
 ref19_Run_open_J2 n x0 a11 H [])) (List.length H) = some r) : EV C n_ref19_Run_open [x0] H = some r :=
 EV_of_fnK' (fn := Tryz.f40) (by kernel_rfl) (by kernel_rfl) (by kernel_rfl) hh
noncomputable def ref17_Bytes_J3 (n : Nat) (t0 t3 t4 : AV) (H : List AObj) (E : List Nat) : Option R3 :=
 lK 41 Tryz.f41 [1, 1, 0, 1, 0] n
 ⟨pat 20 [(0, t0), (3, t3), (4, t4)], H, E⟩
theorem ref17_Bytes_J3_of {t0 t3 t4 : AV} (hh : (
 (lenV t0 H).bind fun a1 =>
 (binA .lss tI cT false t4 a1).bind fun a2 =>
 condK a2
 ((ixA 1 t0 t4 H).bind fun a3 =>
 (loadA false 1 a3 H).bind fun a4 =>
 (cvI .u8 a4).bind fun a5 =>
 litK 1 1 (.int .u8 0) [(0, a5)] H fun a6 H6 E6 =>
 appK 1 1 t3 a6 H6 fun a7 H7 E7 =>
 (binA .add tI cT true t4 (.int .i64 1)).bind fun a8 =>
 ref17_Bytes_J3 n t0 a7 a8 H7 ((E7 ++ (E6 ++ [])) ++ E))
 (endB false false n t3 H E)) = some r) : ref17_Bytes_J3 n t0 t3 t4 H E = some r :=
 loop_step' (by kernel_rfl) hh
theorem ref17_Bytes_of {x0 : AV} (hh : (fun n => (
 ref17_Bytes_J3 n x0 (.slc (List.length H) 0 0 0) z0 (H ++ [.vrow]) [])) (List.length H) = some r) : EV C n_ref17_Bytes [x0] H = some r :=
 EV_of_fnK' (fn := Tryz.f41) (by kernel_rfl) (by kernel_rfl) (by kernel_rfl) hh
theorem ref18_Compact_of {x0 x1 : AV} (hh : (fun n => (
 newK x0 H fun a1 H1 E1 =>
 newK (.agg [z0, z0, .nils, .nils]) H1 fun a2 H2 E2 =>
 (loadA true 4 a1 H2).bind fun a3 =>
 (callD (EV C) n_ref18_Term [a3, x1] H2).bind fun a4 =>
 (loadA true 4 a1 H2).bind fun a5 =>
 (callD (EV C) n_ref18_Members [a5, x1] H2).bind fun a6 =>
 (fillB (AV.cells (.agg [z0, z0, .nils])) [(0, 1, x1), (1, 1, a4), (2, 1, a6)]).bind fun c7 =>
 (fillB (AV.cells (.agg [z0, z0, .nils, .nils])) [(0, 3, (.agg c7))]).bind fun c8 =>
 newK (.agg [z0, z0, .nils, .nils]) H2 fun a9 H9 E9 =>
 drawK (((loadA true 4 a1 H9).bind fun a10 =>
 some a10) = some a3)
 (drawK (((callD (EV C) n_ref18_Term [a3, x1] H9).bind fun a11 =>
 some a11) = some a4)
 (drawK (((loadA true 4 a1 H9).bind fun a12 =>
 some a12) = some a5)
 (drawK (((callD (EV C) n_ref18_Members [a5, x1] H9).bind fun a13 =>
 some a13) = some a6)
 (stoK 4 a9 (.agg c8) H9 fun H14 E14 =>
 (offA a9 3).bind fun a15 =>
 (loadA false 1 a15 H14).bind fun a16 =>
 (offA a1 3).bind fun a17 =>
 (loadA false 1 a17 H14).bind fun a18 =>
 (offA a1 0).bind fun a19 =>
 (offA a19 0).bind fun a20 =>
 (loadA false 1 a20 H14).bind fun a21 =>
 (binA .sub tI cT false x1 a21).bind fun a22 =>
 (cutA 3 a18 (some a22) none none H14).bind fun a23 =>
 appK 3 40 a16 a23 H14 fun a24 H24 E24 =>
 (offA a9 3).bind fun a25 =>
 stoK 1 a25 a24 H24 fun H26 E26 =>
 (loadA true 4 a9 H26).bind fun a27 =>
 stoK 4 a2 a27 H26 fun H28 E28 =>
 (loadA true 4 a2 H28).bind fun a29 =>
 endB false false n a29 H28 (E28 ++ (E26 ++ (E24 ++ (E14 ++ (E9 ++ (E2 ++ (E1 ++ []))))))))))))) (List.length H) = some r) : EV C n_ref18_Compact [x0, x1] H = some r :=
 EV_of_fnK' (fn := Tryz.f42) (by kernel_rfl) (by kernel_rfl) (by kernel_rfl) hh
theorem ref19_SameMsg_of {x0 x1 : AV} (hh : (fun n => (
 newK x0 H fun a1 H1 E1 =>
 newK x1 H1 fun a2 H2 E2 =>
 (offA a1 0).bind fun a3 =>
 (loadA false 1 a3 H2).bind fun a4 =>
 (offA a2 0).bind fun a5 =>
 (loadA false 1 a5 H2).bind fun a6 =>
 (binA .eql tI cT false a4 a6).bind fun a7 =>
 splitK a7
 ((offA a1 1).bind fun a8 =>
 (loadA false 1 a8 H2).bind fun a9 =>
 (offA a2 1).bind fun a10 =>
 (loadA false 1 a10 H2).bind fun a11 =>
 (binA .eql tI cT false a9 a11).bind fun a12 =>
 splitK a12
 ((offA a1 2).bind fun a13 =>
 (loadA false 1 a13 H2).bind fun a14 =>
 (offA a2 2).bind fun a15 =>
 (loadA false 1 a15 H2).bind fun a16 =>
 (binA .eql tI cT false a14 a16).bind fun a17 =>
 splitK a17
 ((offA a1 3).bind fun a18 =>
 (loadA false 1 a18 H2).bind fun a19 =>
 (offA a2 3).bind fun a20 =>
 (loadA false 1 a20 H2).bind fun a21 =>
 (binA .eql tI cT false a19 a21).bind fun a22 =>
 splitK a22
 ((offA a1 4).bind fun a23 =>
 (loadA false 1 a23 H2).bind fun a24 =>
 (offA a2 4).bind fun a25 =>
 (loadA false 1 a25 H2).bind fun a26 =>
 (binA .eql tI cT false a24 a26).bind fun a27 =>
 splitK a27
 ((offA a1 5).bind fun a28 =>
 (loadA false 1 a28 H2).bind fun a29 =>
 (offA a2 5).bind fun a30 =>
 (loadA false 1 a30 H2).bind fun a31 =>
 (binA .eql tI cT false a29 a31).bind fun a32 =>
 splitK a32
 ((offA a1 6).bind fun a33 =>
 (loadA false 1 a33 H2).bind fun a34 =>
 (offA a2 6).bind fun a35 =>
 (loadA false 1 a35 H2).bind fun a36 =>
 (binA .eql tI cT false a34 a36).bind fun a37 =>
 splitK a37
 ((offA a1 7).bind fun a38 =>
 (loadA false 1 a38 H2).bind fun a39 =>
 (offA a2 7).bind fun a40 =>
 (loadA false 1 a40 H2).bind fun a41 =>
 (binA .eql Go.TypeDesc.bool cT false a39 a41).bind fun a42 =>
 splitK a42
 ((offA a1 8).bind fun a43 =>
 (loadA false 1 a43 H2).bind fun a44 =>
 (offA a2 8).bind fun a45 =>
 (loadA false 1 a45 H2).bind fun a46 =>
 callK (EV C) false n_ref18_SameEntries [a44, a46] H2 fun a47 H47 E47 =>
 splitK a47
 ((offA a1 9).bind fun a48 =>
 (loadA false 1 a48 H47).bind fun a49 =>
 (offA a2 9).bind fun a50 =>
 (loadA false 1 a50 H47).bind fun a51 =>
 callK (EV C) false n_ref17_Same [a49, a51] H47 fun a52 H52 E52 =>
 splitK a52
 ((offA a1 10).bind fun a53 =>
 (loadA false 1 a53 H52).bind fun a54 =>
 (offA a2 10).bind fun a55 =>
 (loadA false 1 a55 H52).bind fun a56 =>
 (binA .eql tI cT false a54 a56).bind fun a57 =>
 splitK a57
 ((offA a1 11).bind fun a58 =>
 (loadA false 1 a58 H52).bind fun a59 =>
 (lenV a59 H52).bind fun a60 =>
 (offA a2 11).bind fun a61 =>
 (loadA false 1 a61 H52).bind fun a62 =>
 (lenV a62 H52).bind fun a63 =>
 (binA .eql tI cT false a60 a63).bind fun a64 =>
 splitK a64
 ((offA a1 12).bind fun a65 =>
 (offA a65 0).bind fun a66 =>
 (loadA false 1 a66 H52).bind fun a67 =>
 (offA a2 12).bind fun a68 =>
 (offA a68 0).bind fun a69 =>
 (loadA false 1 a69 H52).bind fun a70 =>
 (binA .eql tI cT false a67 a70).bind fun a71 =>
 endB false false n a71 H52 (E52 ++ (E47 ++ (E2 ++ (E1 ++ [])))))
 (endB false false n (.bool false) H52 (E52 ++ (E47 ++ (E2 ++ (E1 ++ []))))))
 (endB false false n (.bool false) H52 (E52 ++ (E47 ++ (E2 ++ (E1 ++ []))))))
 (endB false false n (.bool false) H52 (E52 ++ (E47 ++ (E2 ++ (E1 ++ []))))))
 (endB false false n (.bool false) H47 (E47 ++ (E2 ++ (E1 ++ [])))))
 (endB false false n (.bool false) H2 (E2 ++ (E1 ++ []))))
 (endB false false n (.bool false) H2 (E2 ++ (E1 ++ []))))
 (endB false false n (.bool false) H2 (E2 ++ (E1 ++ []))))
 (endB false false n (.bool false) H2 (E2 ++ (E1 ++ []))))
 (endB false false n (.bool false) H2 (E2 ++ (E1 ++ []))))
 (endB false false n (.bool false) H2 (E2 ++ (E1 ++ []))))
 (endB false false n (.bool false) H2 (E2 ++ (E1 ++ []))))
 (endB false false n (.bool false) H2 (E2 ++ (E1 ++ []))))) (List.length H) = some r) : EV C n_ref19_SameMsg [x0, x1] H = some r :=
 EV_of_fnK' (fn := Tryz.f43) (by kernel_rfl) (by kernel_rfl) (by kernel_rfl) hh
theorem raft_timeout_of {x0 : AV} (hh : (fun n => (
 (binA .rem tI cT true x0 (.int .i64 10)).bind fun a1 =>
 (binA .lss tI cT true a1 z0).bind fun a2 =>
 condK a2
 ((binA .add tI cT true a1 (.int .i64 10)).bind fun a3 =>
 (binA .add tI cT true (.int .i64 10) a3).bind fun a4 =>
 endB false false n a4 H [])
 ((binA .add tI cT true (.int .i64 10) a1).bind fun a5 =>
 endB false false n a5 H []))) (List.length H) = some r) : EV C n_raft_timeout [x0] H = some r :=
 EV_of_fnK' (fn := Tryz.f44) (by kernel_rfl) (by kernel_rfl) (by kernel_rfl) hh
noncomputable def raft_stepper_others_J1 (n : Nat) (t0 t1 t7 t8 t9 : AV) (H : List AObj) (E : List Nat) : Option R3 :=
 lK 45 Tryz.f45 [1, 0] n
 ⟨pat 24 [(0, t0), (1, t1), (7, t7), (8, t8), (9, t9)], H, E⟩
theorem raft_stepper_others_J1_of {t0 t1 t7 t8 t9 : AV} (hh : (
 (binA .lss tI cT false t9 t8).bind fun a1 =>
 condK a1
 ((ixA 1 t7 t9 H).bind fun a2 =>
 (loadA false 1 a2 H).bind fun a3 =>
 (nilA t0).bind fun a4 =>
 (offA a4 0).bind fun a5 =>
 (offA a5 0).bind fun a6 =>
 (loadA false 1 a6 H).bind fun a7 =>
 (binA .neq tI cT false a3 a7).bind fun a8 =>
 condK a8
 (valK Tryz.prog (EV C) false t1 [a3] H fun a9 H9 E9 =>
 (binA .add tI cT true t9 (.int .i64 1)).bind fun a10 =>
 raft_stepper_others_J1 n t0 t1 t7 t8 a10 H9 ((E9 ++ []) ++ E))
 ((binA .add tI cT true t9 (.int .i64 1)).bind fun a11 =>
 raft_stepper_others_J1 n t0 t1 t7 t8 a11 H E))
 (endB false false n (.tup []) H E)) = some r) : raft_stepper_others_J1 n t0 t1 t7 t8 t9 H E = some r :=
 loop_step' (by kernel_rfl) hh
theorem raft_stepper_others_of {x0 x1 : AV} (hh : (fun n => (
 callK (EV C) false n_raft_stepper_members [x0] H fun a1 H1 E1 =>
 (lenV a1 H1).bind fun a2 =>
 raft_stepper_others_J1 n x0 x1 a1 a2 z0 H1 (E1 ++ []))) (List.length H) = some r) : EV C n_raft_stepper_others [x0, x1] H = some r :=
 EV_of_fnK' (fn := Tryz.f45) (by kernel_rfl) (by kernel_rfl) (by kernel_rfl) hh
theorem raft_stepper_bring_of {x0 x1 : AV} (hh : (fun n => (
 (nilA x0).bind fun a1 =>
 (offA a1 0).bind fun a2 =>
 (offA a2 5).bind fun a3 =>
 (offA a3 0).bind fun a4 =>
 (loadA true 3 a4 H).bind fun a5 =>
 newK (.agg [z0, z0, .nils]) H fun a6 H6 E6 =>
 stoK 3 a6 a5 H6 fun H7 E7 =>
 (nilA x0).bind fun a8 =>
 (offA a8 0).bind fun a9 =>
 (offA a9 11).bind fun a10 =>
 (arA 8 1 a10 x1).bind fun a11 =>
 (loadA false 1 a11 H7).bind fun a12 =>
 (offA a6 0).bind fun a13 =>
 (loadA false 1 a13 H7).bind fun a14 =>
 (binA .leq tI cT false a12 a14).bind fun a15 =>
 condK a15
 ((offA a6 0).bind fun a16 =>
 (loadA false 1 a16 H7).bind fun a17 =>
 (offA a6 1).bind fun a18 =>
 (loadA false 1 a18 H7).bind fun a19 =>
 (offA a6 2).bind fun a20 =>
 (loadA false 1 a20 H7).bind fun a21 =>
 (callD (EV C) n_Clone_int [a21] H7).bind fun a22 =>
 (fillB (AV.cells (.agg [z0, z0, z0, z0, z0, z0, z0, (.bool false), .nils, .nils, z0, .nils, z0, .nils, .nils, .nils, .nils])) [(0, 1, (.int .i64 5)), (4, 1, a17), (5, 1, a19), (9, 1, a22)]).bind fun c23 =>
 callK (EV C) false n_raft_stepper_send [x0, x1, (.agg c23)] H7 fun a24 H24 E24 =>
 endB false false n (.tup []) H24 (E24 ++ (E7 ++ (E6 ++ []))))
 ((binA .sub tI cT true a12 (.int .i64 1)).bind fun a25 =>
 callK (EV C) false n_raft_stepper_last [x0] H7 fun a26 H26 E26 =>
 (minA [a25, a26]).bind fun a27 =>
 (nilA x0).bind fun a28 =>
 (offA a28 0).bind fun a29 =>
 (offA a29 5).bind fun a30 =>
 (loadA true 4 a30 H26).bind fun a31 =>
 callK (EV C) false n_log_Term [a31, a27] H26 fun a32 H32 E32 =>
 (extA a32 0).bind fun a33 =>
 (extA a32 1).bind fun a34 =>
 (binA .neq (Go.TypeDesc.interface #[("Error", 121)]) cT true a34 .nili).bind fun a35 =>
 condK a35
 (endB false false n (.tup []) H32 (E32 ++ (E26 ++ (E7 ++ (E6 ++ [])))))
 ((nilA x0).bind fun a36 =>
 (offA a36 0).bind fun a37 =>
 (offA a37 5).bind fun a38 =>
 (loadA true 4 a38 H32).bind fun a39 =>
 (binA .add tI cT true a27 (.int .i64 1)).bind fun a40 =>
 (callD (EV C) n_log_Slice [a39, a40, (.int .i64 8)] H32).bind fun a41 =>
 (nilA x0).bind fun a42 =>
 (offA a42 0).bind fun a43 =>
 (offA a43 9).bind fun a44 =>
 (loadA false 1 a44 H32).bind fun a45 =>
 (fillB (AV.cells (.agg [z0, z0, z0, z0, z0, z0, z0, (.bool false), .nils, .nils, z0, .nils, z0, .nils, .nils, .nils, .nils])) [(0, 1, (.int .i64 3)), (4, 1, a27), (5, 1, a33), (8, 1, a41), (6, 1, a45)]).bind fun c46 =>
 callK (EV C) false n_raft_stepper_send [x0, x1, (.agg c46)] H32 fun a47 H47 E47 =>
 endB false false n (.tup []) H47 (E47 ++ (E32 ++ (E26 ++ (E7 ++ (E6 ++ []))))))))) (List.length H) = some r) : EV C n_raft_stepper_bring [x0, x1] H = some r :=
 EV_of_fnK' (fn := Tryz.f46) (by kernel_rfl) (by kernel_rfl) (by kernel_rfl) hh
end Go.Pm
