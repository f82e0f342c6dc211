/- A part of the proof: what the functions of the program answer, as plain lists and numbers. -/
import Derived.Test.YtndkpoacbheemaaGreatP8
namespace Go.Pm
set_option linter.unusedVariables false
open Go.Proofs
variable {r : R3} {n : Nat} {H : List AObj} {E : List Nat}
set_option linter.unusedVariables false
set_option maxRecDepth 100000
noncomputable def ref18_Slice_J5 (n : Nat) (t2 t3 t7 t8 : AV) (H : List AObj) (E : List Nat) : Option R3 :=
 lK 102 Tryz.f102 [1, 1, 1, 0, 1, 0] n
 ⟨pat 48 [(2, t2), (3, t3), (7, t7), (8, t8)], H, E⟩
theorem ref18_Slice_J5_of {t2 t3 t7 t8 : AV} (hh : (
 (offA t3 3).bind fun a1 =>
 (loadA false 1 a1 H).bind fun a2 =>
 (lenV a2 H).bind fun a3 =>
 (binA .lss tI cT false t8 a3).bind fun a4 =>
 splitK a4
 ((lenV t7 H).bind fun a5 =>
 (binA .lss tI cT false a5 t2).bind fun a6 =>
 condK a6
 ((offA t3 3).bind fun a7 =>
 (loadA false 1 a7 H).bind fun a8 =>
 (ixA 3 a8 t8 H).bind fun a9 =>
 (loadA true 3 a9 H).bind fun a10 =>
 litK 3 1 (.agg [z0, z0, .nils]) [(0, a10)] H fun a11 H11 E11 =>
 appK 3 40 t7 a11 H11 fun a12 H12 E12 =>
 (binA .add tI cT true t8 (.int .i64 1)).bind fun a13 =>
 ref18_Slice_J5 n t2 t3 a12 a13 H12 ((E12 ++ (E11 ++ [])) ++ E))
 (endB false false n t7 H E))
 (endB false false n t7 H E)) = some r) : ref18_Slice_J5 n t2 t3 t7 t8 H E = some r :=
 loop_step' (by kernel_rfl) hh
theorem ref18_Slice_of {x0 x1 x2 : AV} (hh : (fun n => (
 newK x0 H fun a1 H1 E1 =>
 (offA a1 0).bind fun a2 =>
 (offA a2 0).bind fun a3 =>
 (loadA false 1 a3 (H1 ++ [.vrow])).bind fun a4 =>
 (binA .leq tI cT false x1 a4).bind fun a5 =>
 splitK a5
 (endB false false n .nils (H1 ++ [.vrow]) (E1 ++ []))
 ((loadA true 4 a1 (H1 ++ [.vrow])).bind fun a6 =>
 callK (EV C) false n_ref18_Last [a6] (H1 ++ [.vrow]) fun a7 H7 E7 =>
 (binA .gtr tI cT false x1 a7).bind fun a8 =>
 condK a8
 (endB false false n .nils H7 (E7 ++ (E1 ++ [])))
 ((offA a1 0).bind fun a9 =>
 (offA a9 0).bind fun a10 =>
 (loadA false 1 a10 H7).bind fun a11 =>
 (binA .sub tI cT false x1 a11).bind fun a12 =>
 (binA .sub tI cT true a12 (.int .i64 1)).bind fun a13 =>
 ref18_Slice_J5 n x2 a1 (.slc (List.length H1) 0 0 0) a13 H7 (E7 ++ (E1 ++ [])))))) (List.length H) = some r) : EV C n_ref18_Slice [x0, x1, x2] H = some r :=
 EV_of_fnK' (fn := Tryz.f102) (by kernel_rfl) (by kernel_rfl) (by kernel_rfl) hh
noncomputable def Concat_api_Entry_J3 (n : Nat) (t0 t3 t9 t10 t11 : AV) (H : List AObj) (E : List Nat) : Option R3 :=
 lK 103 Tryz.f103 [1, 1, 0, 1, 0] n
 ⟨pat 36 [(0, t0), (3, t3), (9, t9), (10, t10), (11, t11)], H, E⟩
noncomputable def Concat_api_Entry_J11 (n : Nat) (t6 t25 t26 t27 : AV) (H : List AObj) (E : List Nat) : Option R3 :=
 lK 103 Tryz.f103 [1, 1, 1, 1, 0, 1, 0] n
 ⟨pat 36 [(6, t6), (25, t25), (26, t26), (27, t27)], H, E⟩
theorem Concat_api_Entry_J3_of {t0 t3 t9 t10 t11 : AV} (hh : (
 (binA .lss tI cT false t11 t10).bind fun a1 =>
 condK a1
 ((ixA 1 t9 t11 H).bind fun a2 =>
 (loadA false 1 a2 H).bind fun a3 =>
 (lenV a3 H).bind fun a4 =>
 (binA .add tI cT false t3 a4).bind fun a5 =>
 (binA .lss tI cT true a5 z0).bind fun a6 =>
 condK a6
 (none)
 ((binA .add tI cT true t11 (.int .i64 1)).bind fun a7 =>
 Concat_api_Entry_J3 n t0 a5 t9 t10 a7 H E))
 (callK (EV C) true n_Grow_api_Entry [.nils, t3] H fun a8 H8 E8 =>
 (lenV t0 H8).bind fun a9 =>
 Concat_api_Entry_J11 n a8 t0 a9 z0 H8 (E8 ++ E))) = some r) : Concat_api_Entry_J3 n t0 t3 t9 t10 t11 H E = some r :=
 loop_step' (by kernel_rfl) hh
theorem Concat_api_Entry_J11_of {t6 t25 t26 t27 : AV} (hh : (
 (binA .lss tI cT false t27 t26).bind fun a1 =>
 condK a1
 ((ixA 1 t25 t27 H).bind fun a2 =>
 (loadA false 1 a2 H).bind fun a3 =>
 appK 3 40 t6 a3 H fun a4 H4 E4 =>
 (binA .add tI cT true t27 (.int .i64 1)).bind fun a5 =>
 Concat_api_Entry_J11 n a4 t25 t26 a5 H4 ((E4 ++ []) ++ E))
 (endB false false n t6 H E)) = some r) : Concat_api_Entry_J11 n t6 t25 t26 t27 H E = some r :=
 loop_step' (by kernel_rfl) hh
theorem Concat_api_Entry_of {x0 : AV} (hh : (fun n => (
 (lenV x0 H).bind fun a1 =>
 Concat_api_Entry_J3 n x0 z0 x0 a1 z0 H [])) (List.length H) = some r) : EV C n_Concat_api_Entry [x0] H = some r :=
 EV_of_fnK' (fn := Tryz.f103) (by kernel_rfl) (by kernel_rfl) (by kernel_rfl) hh
noncomputable def IndexFunc_api_Entry_J2 (n : Nat) (t0 t1 t7 t8 : AV) (H : List AObj) (E : List Nat) : Option R3 :=
 lK 104 Tryz.f104 [1, 0, 1, 0] n
 ⟨pat 19 [(0, t0), (1, t1), (7, t7), (8, t8)], H, E⟩
theorem IndexFunc_api_Entry_J2_of {t0 t1 t7 t8 : AV} (hh : (
 (binA .lss tI cT false t8 t7).bind fun a1 =>
 condK a1
 ((ixA 3 t0 t8 H).bind fun a2 =>
 (loadA true 3 a2 H).bind fun a3 =>
 valK Tryz.prog (EV C) false t1 [a3] H fun a4 H4 E4 =>
 condK a4
 (endB false false n t8 H4 ((E4 ++ []) ++ E))
 ((binA .add tI cT true t8 (.int .i64 1)).bind fun a5 =>
 IndexFunc_api_Entry_J2 n t0 t1 t7 a5 H4 ((E4 ++ []) ++ E)))
 (endB false false n (.int .i64 (-1)) H E)) = some r) : IndexFunc_api_Entry_J2 n t0 t1 t7 t8 H E = some r :=
 loop_step' (by kernel_rfl) hh
theorem IndexFunc_api_Entry_of {x0 x1 : AV} (hh : (fun n => (
 (lenV x0 H).bind fun a1 =>
 IndexFunc_api_Entry_J2 n x0 x1 a1 z0 H [])) (List.length H) = some r) : EV C n_IndexFunc_api_Entry [x0, x1] H = some r :=
 EV_of_fnK' (fn := Tryz.f104) (by kernel_rfl) (by kernel_rfl) (by kernel_rfl) hh
noncomputable def IndexFunc_int_J2 (n : Nat) (t0 t1 t7 t8 : AV) (H : List AObj) (E : List Nat) : Option R3 :=
 lK 105 Tryz.f105 [1, 0, 1, 0] n
 ⟨pat 19 [(0, t0), (1, t1), (7, t7), (8, t8)], H, E⟩
theorem IndexFunc_int_J2_of {t0 t1 t7 t8 : AV} (hh : (
 (binA .lss tI cT false t8 t7).bind fun a1 =>
 condK a1
 ((ixA 1 t0 t8 H).bind fun a2 =>
 (loadA false 1 a2 H).bind fun a3 =>
 valK Tryz.prog (EV C) false t1 [a3] H fun a4 H4 E4 =>
 condK a4
 (endB false false n t8 H4 ((E4 ++ []) ++ E))
 ((binA .add tI cT true t8 (.int .i64 1)).bind fun a5 =>
 IndexFunc_int_J2 n t0 t1 t7 a5 H4 ((E4 ++ []) ++ E)))
 (endB false false n (.int .i64 (-1)) H E)) = some r) : IndexFunc_int_J2 n t0 t1 t7 t8 H E = some r :=
 loop_step' (by kernel_rfl) hh
theorem IndexFunc_int_of {x0 x1 : AV} (hh : (fun n => (
 (lenV x0 H).bind fun a1 =>
 IndexFunc_int_J2 n x0 x1 a1 z0 H [])) (List.length H) = some r) : EV C n_IndexFunc_int [x0, x1] H = some r :=
 EV_of_fnK' (fn := Tryz.f105) (by kernel_rfl) (by kernel_rfl) (by kernel_rfl) hh
theorem Grow_api_Entry_of {x0 x1 : AV} (hh : (fun n => (
 (binA .lss tI cT true x1 z0).bind fun a1 =>
 condK a1
 (none)
 ((capA x0).bind fun a2 =>
 (lenV x0 H).bind fun a3 =>
 (binA .sub tI cT false a2 a3).bind fun a4 =>
 (binA .sub tI cT false x1 a4).bind fun a5 =>
 (binA .gtr tI cT true a5 z0).bind fun a6 =>
 condK a6
 ((capA x0).bind fun a7 =>
 (cutA 3 x0 none (some a7) none H).bind fun a8 =>
 zapK 3 40 (.agg [z0, z0, .nils]) a8 a5 H fun a9 H9 E9 =>
 (lenV x0 H9).bind fun a10 =>
 (cutA 3 a9 none (some a10) none H9).bind fun a11 =>
 trmK a11 H9 [] fun a12 H12 E12 =>
 endB true true n a12 H12 (E12 ++ (E9 ++ [])))
 (endB true true n x0 H [])))) (List.length H) = some r) : EV C n_Grow_api_Entry [x0, x1] H = some r :=
 EV_of_fnK' (fn := Tryz.f106) (by kernel_rfl) (by kernel_rfl) (by kernel_rfl) hh
theorem Clone_api_Entry_r_of {x0 : AV} (hh : (fun n => (
 (binA .eql (Go.TypeDesc.slice 86) cT true x0 .nils).bind fun a1 =>
 condK a1
 (endB true true n .nils H [])
 (appK 3 40 (AV.emp none) x0 H fun a2 H2 E2 =>
 endB true true n a2 H2 (E2 ++ [])))) (List.length H) = some r) : EV C0 n_Clone_api_Entry_r [x0] H = some r :=
 EV_of_fnK' (fn := Tryz.f67) (by kernel_rfl) (by kernel_rfl) (by kernel_rfl) hh
theorem Clone_int_r_of {x0 : AV} (hh : (fun n => (
 (binA .eql (Go.TypeDesc.slice 3) cT true x0 .nils).bind fun a1 =>
 condK a1
 (endB true true n .nils H [])
 (appK 1 8 (AV.emp none) x0 H fun a2 H2 E2 =>
 endB true true n a2 H2 (E2 ++ [])))) (List.length H) = some r) : EV C0 n_Clone_int_r [x0] H = some r :=
 EV_of_fnK' (fn := Tryz.f52) (by kernel_rfl) (by kernel_rfl) (by kernel_rfl) hh
end Go.Pm
