/- A part of the proof: what the functions of the program answer, as plain lists and numbers. -/
import Derived.Test.YtclfnechcblmoaaDoorP9
namespace Go.Pm
open Go.Proofs
set_option linter.unusedVariables false
set_option maxRecDepth 100000
noncomputable def ref04_Copy_J3 (n : Nat) (t1 t2 t3 t4 : AV) (H : List AObj) (E : List Nat) : Option R3 :=
 loopK Tryd.prog C.G (EV C) (C.hint 33) Tryd.f33 (cAt (bodyOf Tryd.f33) [1, 1, 0, 1, 0, 0]) (kAt Tryd.prog C.G (EV C) (C.hint 33) Tryd.f33 (bodyOf Tryd.f33) [1, 1, 0, 1, 0] [] (endK Tryd.prog (C.hint 33) Tryd.f33 n))
 ⟨pat 39 [(1, t1), (2, t2), (3, t3), (4, t4)], H, E⟩
theorem ref04_Copy_J3_of {r : R3} {n : Nat} {t1 t2 t3 t4 : AV} {H : List AObj} {E : List Nat} (hh : (
 (offA t1 4).bind fun a1 =>
 (loadA false 1 a1 H).bind fun a2 =>
 (lenV a2 H).bind fun a3 =>
 (binA .lss (Go.TypeDesc.int Go.IntKind.i64) (cmpT Tryd.prog) false t4 a3).bind fun a4 =>
 condK a4
 ((offA t3 4).bind fun a5 =>
 (loadA false 1 a5 H).bind fun a6 =>
 (offA t1 4).bind fun a7 =>
 (loadA false 1 a7 H).bind fun a8 =>
 (ixA 5 a8 t4 H).bind fun a9 =>
 (loadA true 5 a9 H).bind fun a10 =>
 (callD (EV C) n_ref04_Copy [a10] H).bind fun a11 =>
 (litD 5 1 (.agg [(.int .i64 0), .nils, .nils, .nils, .nils]) [(0, a11)] H).bind fun a12 =>
 appK 5 104 a6 a12 H fun a13 H13 E13 =>
 (offA t3 4).bind fun a14 =>
 stoK 1 a14 a13 H13 fun H15 E15 =>
 (binA .add (Go.TypeDesc.int Go.IntKind.i64) (cmpT Tryd.prog) true t4 (.int .i64 1)).bind fun a16 =>
 ref04_Copy_J3 n t1 t2 t3 a16 H15 ((E15 ++ (E13 ++ [])) ++ E))
 ((loadA true 5 t3 H).bind fun a17 =>
 stoK 5 t2 a17 H fun H18 E18 =>
 (loadA true 5 t2 H18).bind fun a19 =>
 endB false false n a19 H18 (E18 ++ E))) = some r) : ref04_Copy_J3 n t1 t2 t3 t4 H E = some r :=
 loop_step' (by kernel_rfl) hh
theorem ref04_Copy_of {r : R3} {x0 : AV} {H : List AObj} (hh : (fun n => (
 newK x0 H fun a1 H1 E1 =>
 newK (.agg [(.int .i64 0), .nils, .nils, .nils, .nils]) H1 fun a2 H2 E2 =>
 (offA a1 0).bind fun a3 =>
 (loadA false 1 a3 H2).bind fun a4 =>
 (offA a1 1).bind fun a5 =>
 (loadA false 1 a5 H2).bind fun a6 =>
 (appD 1 1 (AV.emp none) a6 H2).bind fun a7 =>
 (offA a1 2).bind fun a8 =>
 (loadA false 1 a8 H2).bind fun a9 =>
 (appD 1 1 (AV.emp none) a9 H2).bind fun a10 =>
 (offA a1 3).bind fun a11 =>
 (loadA false 1 a11 H2).bind fun a12 =>
 (appD 1 1 (AV.emp none) a12 H2).bind fun a13 =>
 (fillB (AV.cells (.agg [(.int .i64 0), .nils, .nils, .nils, .nils])) [(0, 1, a4), (1, 1, a7), (2, 1, a10), (3, 1, a13)]).bind fun c14 =>
 trmK (.agg c14) H2 [] fun a15 H15 E15 =>
 sizK 5 a15
 (newK a15 H15 fun a16 H16 E16 =>
 ref04_Copy_J3 n a1 a2 a16 (.int .i64 0) H16 (E16 ++ (E15 ++ (E2 ++ (E1 ++ []))))))) (List.length H) = some r) : EV C n_ref04_Copy [x0] H = some r :=
 EV_of_fnK' (fn := Tryd.f33) (by kernel_rfl) (by kernel_rfl) (by kernel_rfl) hh
noncomputable def check_Check_r_J10 (n : Nat) (t6 t7 t12 t13 : AV) (H : List AObj) (E : List Nat) : Option R3 :=
 loopK Tryd.prog C.G (EV C) (C.hint 1000019) Tryd.f19 (cAt (bodyOf Tryd.f19) [1, 1, 1, 1, 1, 0, 1, 0, 0]) (kAt Tryd.prog C.G (EV C) (C.hint 1000019) Tryd.f19 (bodyOf Tryd.f19) [1, 1, 1, 1, 1, 0, 1, 0] [] (endK Tryd.prog (C.hint 1000019) Tryd.f19 n))
 ⟨pat 99 [(6, t6), (7, t7), (12, t12), (13, t13)], H, E⟩
noncomputable def check_Check_r_J18 (n : Nat) (t6 t14 t72 t73 t74 : AV) (H : List AObj) (E : List Nat) : Option R3 :=
 loopK Tryd.prog C.G (EV C) (C.hint 1000019) Tryd.f19 (cAt (bodyOf Tryd.f19) [1, 1, 1, 1, 1, 1, 1, 1, 0, 1, 0, 0]) (kAt Tryd.prog C.G (EV C) (C.hint 1000019) Tryd.f19 (bodyOf Tryd.f19) [1, 1, 1, 1, 1, 1, 1, 1, 0, 1, 0] [] (endK Tryd.prog (C.hint 1000019) Tryd.f19 n))
 ⟨pat 99 [(6, t6), (14, t14), (72, t72), (73, t73), (74, t74)], H, E⟩
theorem check_Check_r_J10_of {r : R3} {n : Nat} {t6 t7 t12 t13 : AV} {H : List AObj} {E : List Nat} (hh : (
 (lenV t12 H).bind fun a1 =>
 (binA .lss (Go.TypeDesc.int Go.IntKind.i64) (cmpT Tryd.prog) false t13 a1).bind fun a2 =>
 condK a2
 ((binA .sub (Go.TypeDesc.int Go.IntKind.i64) (cmpT Tryd.prog) true t13 (.int .i64 1)).bind fun a3 =>
 (ixA 5 t12 a3 H).bind fun a4 =>
 (offA a4 1).bind fun a5 =>
 (loadA false 1 a5 H).bind fun a6 =>
 (ixA 5 t12 t13 H).bind fun a7 =>
 (offA a7 1).bind fun a8 =>
 (loadA false 1 a8 H).bind fun a9 =>
 (callD (EV C) n_bytes_Compare [a6, a9] H).bind fun a10 =>
 (binA .geq (Go.TypeDesc.int Go.IntKind.i64) (cmpT Tryd.prog) true a10 (.int .i64 0)).bind fun a11 =>
 condK a11
 (endB true true n (.tup [.nils, (.ifc t_api_Code (.int .i64 7))]) H E)
 ((binA .add (Go.TypeDesc.int Go.IntKind.i64) (cmpT Tryd.prog) true t13 (.int .i64 1)).bind fun a12 =>
 check_Check_r_J10 n t6 t7 t12 a12 H E))
 ((loadA true 3 t6 H).bind fun a13 =>
 (loadA true 5 t7 H).bind fun a14 =>
 callK (EV C) false n_check_open [a13, a14, .nils, .nils, (.bool false), (.bool false)] H fun a15 H15 E15 =>
 condK a15
 (endB true true n (.tup [.nils, (.ifc t_api_Code (.int .i64 8))]) H15 (E15 ++ E))
 ((lenV t12 (H15 ++ [.vrow])).bind fun a16 =>
 check_Check_r_J18 n t6 (.slc (List.length H15) 0 0 0) t12 a16 (.int .i64 0) (H15 ++ [.vrow]) (E15 ++ E)))) = some r) : check_Check_r_J10 n t6 t7 t12 t13 H E = some r :=
 loop_step' (by kernel_rfl) hh
theorem check_Check_r_J18_of {r : R3} {n : Nat} {t6 t14 t72 t73 t74 : AV} {H : List AObj} {E : List Nat} (hh : (
 (binA .lss (Go.TypeDesc.int Go.IntKind.i64) (cmpT Tryd.prog) false t74 t73).bind fun a1 =>
 condK a1
 ((ixA 5 t72 t74 H).bind fun a2 =>
 (loadA true 5 a2 H).bind fun a3 =>
 newK (.agg [(.int .i64 0), .nils, .nils, .nils, .nils]) H fun a4 H4 E4 =>
 stoK 5 a4 a3 H4 fun H5 E5 =>
 (offA a4 0).bind fun a6 =>
 (loadA false 1 a6 H5).bind fun a7 =>
 (binA .eql (Go.TypeDesc.int Go.IntKind.i64) (cmpT Tryd.prog) true a7 (.int .i64 1)).bind fun a8 =>
 splitK a8
 ((loadA true 3 t6 H5).bind fun a9 =>
 (offA a4 1).bind fun a10 =>
 (loadA false 1 a10 H5).bind fun a11 =>
 callK (EV C) false n_scan_In [a9, a11] H5 fun a12 H12 E12 =>
 condK a12
 ((offA a4 1).bind fun a13 =>
 (loadA false 1 a13 H12).bind fun a14 =>
 (callD (EV C) n_Clone_byte [a14] H12).bind fun a15 =>
 (offA a4 2).bind fun a16 =>
 (loadA false 1 a16 H12).bind fun a17 =>
 callK (EV C) true n_Clone_byte_r [a17] H12 fun a18 H18 E18 =>
 (fillB (AV.cells (.agg [.nils, .nils])) [(0, 1, a15), (1, 1, a18)]).bind fun c19 =>
 rawK 2 1 (.agg [.nils, .nils]) [(0, (.agg c19))] H18 fun a20 H20 E20 =>
 appK 2 48 t14 a20 H20 fun a21 H21 E21 =>
 (binA .add (Go.TypeDesc.int Go.IntKind.i64) (cmpT Tryd.prog) true t74 (.int .i64 1)).bind fun a22 =>
 check_Check_r_J18 n t6 a21 t72 t73 a22 H21 ((E21 ++ (E20 ++ (E18 ++ (E12 ++ (E5 ++ (E4 ++ [])))))) ++ E))
 ((binA .add (Go.TypeDesc.int Go.IntKind.i64) (cmpT Tryd.prog) true t74 (.int .i64 1)).bind fun a23 =>
 check_Check_r_J18 n t6 t14 t72 t73 a23 H12 ((E12 ++ (E5 ++ (E4 ++ []))) ++ E)))
 ((binA .add (Go.TypeDesc.int Go.IntKind.i64) (cmpT Tryd.prog) true t74 (.int .i64 1)).bind fun a24 =>
 check_Check_r_J18 n t6 t14 t72 t73 a24 H5 ((E5 ++ (E4 ++ [])) ++ E)))
 (endB true true n (.tup [t14, .nili]) H E)) = some r) : check_Check_r_J18 n t6 t14 t72 t73 t74 H E = some r :=
 loop_step' (by kernel_rfl) hh
theorem check_Check_r_of {r : R3} {x0 x1 x2 x3 : AV} {H : List AObj} (hh : (fun n => (
 newK x2 H fun a1 H1 E1 =>
 newK x3 H1 fun a2 H2 E2 =>
 (binA .lss (Go.TypeDesc.int Go.IntKind.i64) (cmpT Tryd.prog) true x0 (.int .i64 1)).bind fun a3 =>
 splitK a3
 (endB true true n (.tup [.nils, (.ifc t_api_Code (.int .i64 1))]) H2 (E2 ++ (E1 ++ [])))
 ((binA .gtr (Go.TypeDesc.int Go.IntKind.i64) (cmpT Tryd.prog) true x0 (.int .i64 32)).bind fun a4 =>
 splitK a4
 (endB true true n (.tup [.nils, (.ifc t_api_Code (.int .i64 1))]) H2 (E2 ++ (E1 ++ [])))
 ((lenV x1 H2).bind fun a5 =>
 (binA .neq (Go.TypeDesc.int Go.IntKind.i64) (cmpT Tryd.prog) false a5 x0).bind fun a6 =>
 condK a6
 (endB true true n (.tup [.nils, (.ifc t_api_Code (.int .i64 1))]) H2 (E2 ++ (E1 ++ [])))
 ((loadA true 5 a2 H2).bind fun a7 =>
 callK (EV C) false n_tree_Digest [x0, a7] H2 fun a8 H8 E8 =>
 (extA a8 0).bind fun a9 =>
 (extA a8 1).bind fun a10 =>
 (binA .neq (Go.TypeDesc.interface #[("Error", 138)]) (cmpT Tryd.prog) true a10 .nili).bind fun a11 =>
 condK a11
 (endB true true n (.tup [.nils, a10]) H8 (E8 ++ (E2 ++ (E1 ++ []))))
 (callK (EV C) false n_bytes_Equal [a9, x1] H8 fun a12 H12 E12 =>
 (unA .not a12).bind fun a13 =>
 condK a13
 (endB true true n (.tup [.nils, (.ifc t_api_Code (.int .i64 6))]) H12 (E12 ++ (E8 ++ (E2 ++ (E1 ++ [])))))
 ((loadA true 5 a2 H12).bind fun a14 =>
 callK (EV C) false n_tree_List [a14] H12 fun a15 H15 E15 =>
 check_Check_r_J10 n a1 a2 a15 (.int .i64 1) H15 (E15 ++ (E12 ++ (E8 ++ (E2 ++ (E1 ++ [])))))))))))) (List.length H) = some r) : EV C n_check_Check_r [x0, x1, x2, x3] H = some r :=
 EV_of_fnK' (fn := Tryd.f19) (by kernel_rfl) (by kernel_rfl) (by kernel_rfl) hh
end Go.Pm
