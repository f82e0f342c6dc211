/- A part of the proof: what the functions of the program answer, as plain lists and numbers. -/
import Derived.Test.YtclfnechcblmoaaDoorP9
namespace Go.Pm
open Go.Proofs
set_option linter.unusedVariables false
set_option maxRecDepth 100000
noncomputable def ref06_Range_J4 (n : Nat) (t3 t5 t6 t7 : AV) (H : List AObj) (E : List Nat) : Option R3 :=
 loopK Tryd.prog C.G (EV C) (C.hint 46) Tryd.f46 (cAt (bodyOf Tryd.f46) [1, 1, 1, 0, 1, 0, 0]) (kAt Tryd.prog C.G (EV C) (C.hint 46) Tryd.f46 (bodyOf Tryd.f46) [1, 1, 1, 0, 1, 0] [] (endK Tryd.prog (C.hint 46) Tryd.f46 n))
 ⟨pat 40 [(3, t3), (5, t5), (6, t6), (7, t7)], H, E⟩
theorem ref06_Range_J4_of {r : R3} {n : Nat} {t3 t5 t6 t7 : AV} {H : List AObj} {E : List Nat} (hh : (
 (lenV t6 H).bind fun a1 =>
 (binA .lss (Go.TypeDesc.int Go.IntKind.i64) (cmpT Tryd.prog) false t7 a1).bind fun a2 =>
 condK a2
 ((loadA true 3 t3 H).bind fun a3 =>
 (ixA 5 t6 t7 H).bind fun a4 =>
 (offA a4 1).bind fun a5 =>
 (loadA false 1 a5 H).bind fun a6 =>
 (callD (EV C) n_ref06_In [a3, a6] H).bind fun a7 =>
 condK a7
 ((ixA 5 t6 t7 H).bind fun a8 =>
 (offA a8 1).bind fun a9 =>
 (loadA false 1 a9 H).bind fun a10 =>
 (ixA 5 t6 t7 H).bind fun a11 =>
 (offA a11 2).bind fun a12 =>
 (loadA false 1 a12 H).bind fun a13 =>
 (fillB (AV.cells (.agg [.nils, .nils])) [(0, 1, a10), (1, 1, a13)]).bind fun c14 =>
 (litD 2 1 (.agg [.nils, .nils]) [(0, (.agg c14))] H).bind fun a15 =>
 appK 2 48 t5 a15 H fun a16 H16 E16 =>
 (binA .add (Go.TypeDesc.int Go.IntKind.i64) (cmpT Tryd.prog) true t7 (.int .i64 1)).bind fun a17 =>
 ref06_Range_J4 n t3 a16 t6 a17 H16 ((E16 ++ []) ++ E))
 ((binA .add (Go.TypeDesc.int Go.IntKind.i64) (cmpT Tryd.prog) true t7 (.int .i64 1)).bind fun a18 =>
 ref06_Range_J4 n t3 t5 t6 a18 H E))
 (endB false false n t5 H E)) = some r) : ref06_Range_J4 n t3 t5 t6 t7 H E = some r :=
 loop_step' (by kernel_rfl) hh
theorem ref06_Range_of {r : R3} {x0 x1 : AV} {H : List AObj} (hh : (fun n => (
 newK x0 H fun a1 H1 E1 =>
 newK x1 H1 fun a2 H2 E2 =>
 (loadA true 5 a1 (H2 ++ [.vrow])).bind fun a3 =>
 callK (EV C) false n_ref04_List [a3] (H2 ++ [.vrow]) fun a4 H4 E4 =>
 ref06_Range_J4 n a2 (.slc (List.length H2) 0 0 0) a4 (.int .i64 0) H4 (E4 ++ (E2 ++ (E1 ++ []))))) (List.length H) = some r) : EV C n_ref06_Range [x0, x1] H = some r :=
 EV_of_fnK' (fn := Tryd.f46) (by kernel_rfl) (by kernel_rfl) (by kernel_rfl) hh
noncomputable def law07_ProofRoots_J11 (n : Nat) (t5 t7 t8 t11 t13 t14 t15 t16 t17 : AV) (H : List AObj) (E : List Nat) : Option R3 :=
 loopK Tryd.prog C.G (EV C) (C.hint 12) Tryd.f12 (cAt (bodyOf Tryd.f12) [1, 1, 1, 1, 1, 1, 1, 1, 1, 0, 1, 0, 0]) (kAt Tryd.prog C.G (EV C) (C.hint 12) Tryd.f12 (bodyOf Tryd.f12) [1, 1, 1, 1, 1, 1, 1, 1, 1, 0, 1, 0] [] (endK Tryd.prog (C.hint 12) Tryd.f12 n))
 ⟨pat 104 [(5, t5), (7, t7), (8, t8), (11, t11), (13, t13), (14, t14), (15, t15), (16, t16), (17, t17)], H, E⟩
theorem law07_ProofRoots_J11_of {r : R3} {n : Nat} {t5 t7 t8 t11 t13 t14 t15 t16 t17 : AV} {H : List AObj} {E : List Nat} (hh : (
 (lenV t16 H).bind fun a1 =>
 (binA .lss (Go.TypeDesc.int Go.IntKind.i64) (cmpT Tryd.prog) false t17 a1).bind fun a2 =>
 condK a2
 ((ixA 5 t16 t17 H).bind fun a3 =>
 (offA a3 0).bind fun a4 =>
 (loadA false 1 a4 H).bind fun a5 =>
 (binA .eql (Go.TypeDesc.int Go.IntKind.i64) (cmpT Tryd.prog) true a5 (.int .i64 1)).bind fun a6 =>
 condK a6
 ((ixA 5 t16 t17 H).bind fun a7 =>
 (offA a7 1).bind fun a8 =>
 (loadA false 1 a8 H).bind fun a9 =>
 (ixA 5 t16 t17 H).bind fun a10 =>
 (offA a10 2).bind fun a11 =>
 (loadA false 1 a11 H).bind fun a12 =>
 (fillB (AV.cells (.agg [.nils, .nils])) [(0, 1, a9), (1, 1, a12)]).bind fun c13 =>
 (litD 2 1 (.agg [.nils, .nils]) [(0, (.agg c13))] H).bind fun a14 =>
 appK 2 48 t15 a14 H fun a15 H15 E15 =>
 (binA .add (Go.TypeDesc.int Go.IntKind.i64) (cmpT Tryd.prog) true t17 (.int .i64 1)).bind fun a16 =>
 law07_ProofRoots_J11 n t5 t7 t8 t11 t13 t14 a15 t16 a16 H15 ((E15 ++ []) ++ E))
 ((binA .add (Go.TypeDesc.int Go.IntKind.i64) (cmpT Tryd.prog) true t17 (.int .i64 1)).bind fun a17 =>
 law07_ProofRoots_J11 n t5 t7 t8 t11 t13 t14 t15 t16 a17 H E))
 (splitK t7
 ((binA .eql (Go.TypeDesc.interface #[("Error", 138)]) (cmpT Tryd.prog) true t14 .nili).bind fun a18 =>
 splitK a18
 ((cvL t13 H).bind fun a19 =>
 (cvL t11 H).bind fun a20 =>
 (binA .eql Go.TypeDesc.string (cmpT Tryd.prog) false a19 a20).bind fun a21 =>
 splitK a21
 ((loadA true 5 t8 H).bind fun a22 =>
 (loadA true 3 t5 H).bind fun a23 =>
 callK (EV C) false n_ref06_Range [a22, a23] H fun a24 H24 E24 =>
 callK (EV C) false n_ref06_Same [t15, a24] H24 fun a25 H25 E25 =>
 endB false false n a25 H25 (E25 ++ (E24 ++ E)))
 (endB false false n (.bool false) H E))
 (endB false false n (.bool false) H E))
 (endB false false n (.bool false) H E))) = some r) : law07_ProofRoots_J11 n t5 t7 t8 t11 t13 t14 t15 t16 t17 H E = some r :=
 loop_step' (by kernel_rfl) hh
theorem law07_ProofRoots_of {r : R3} {x0 x1 x2 : AV} {H : List AObj} (hh : (fun n => (
 newK x2 H fun a1 H1 E1 =>
 callK (EV C) false n_law07_up [] H1 fun a2 H2 E2 =>
 callK (EV C) false n_ref05_Grown [x1] H2 fun a3 H3 E3 =>
 newK (.agg [(.int .i64 0), .nils, .nils, .nils, .nils]) H3 fun a4 H4 E4 =>
 stoK 5 a4 a3 H4 fun H5 E5 =>
 (loadA true 5 a4 H5).bind fun a6 =>
 (loadA true 3 a1 H5).bind fun a7 =>
 callK (EV C) false n_proof_Prove [x0, a6, a7] H5 fun a8 H8 E8 =>
 (extA a8 0).bind fun a9 =>
 (extA a8 1).bind fun a10 =>
 newK (.agg [(.int .i64 0), .nils, .nils, .nils, .nils]) H8 fun a11 H11 E11 =>
 stoK 5 a11 a9 H11 fun H12 E12 =>
 (loadA true 5 a4 H12).bind fun a13 =>
 callK (EV C) false n_tree_Digest [x0, a13] H12 fun a14 H14 E14 =>
 (extA a14 0).bind fun a15 =>
 (extA a14 1).bind fun a16 =>
 (binA .neq (Go.TypeDesc.interface #[("Error", 138)]) (cmpT Tryd.prog) true a10 .nili).bind fun a17 =>
 splitK a17
 (splitK a2
 ((binA .eql (Go.TypeDesc.interface #[("Error", 138)]) (cmpT Tryd.prog) false a10 (.ifc t_api_Code (.int .i64 1))).bind fun a18 =>
 splitK a18
 ((binA .eql (Go.TypeDesc.interface #[("Error", 138)]) (cmpT Tryd.prog) false a16 (.ifc t_api_Code (.int .i64 1))).bind fun a19 =>
 endB false false n a19 H14 (E14 ++ (E12 ++ (E11 ++ (E8 ++ (E5 ++ (E4 ++ (E3 ++ (E2 ++ (E1 ++ []))))))))))
 (endB false false n (.bool false) H14 (E14 ++ (E12 ++ (E11 ++ (E8 ++ (E5 ++ (E4 ++ (E3 ++ (E2 ++ (E1 ++ [])))))))))))
 (endB false false n (.bool false) H14 (E14 ++ (E12 ++ (E11 ++ (E8 ++ (E5 ++ (E4 ++ (E3 ++ (E2 ++ (E1 ++ [])))))))))))
 ((binA .neq (Go.TypeDesc.interface #[("Error", 138)]) (cmpT Tryd.prog) true a16 .nili).bind fun a20 =>
 condK a20
 (splitK a2
 ((binA .eql (Go.TypeDesc.interface #[("Error", 138)]) (cmpT Tryd.prog) false a10 (.ifc t_api_Code (.int .i64 1))).bind fun a21 =>
 splitK a21
 ((binA .eql (Go.TypeDesc.interface #[("Error", 138)]) (cmpT Tryd.prog) false a16 (.ifc t_api_Code (.int .i64 1))).bind fun a22 =>
 endB false false n a22 H14 (E14 ++ (E12 ++ (E11 ++ (E8 ++ (E5 ++ (E4 ++ (E3 ++ (E2 ++ (E1 ++ []))))))))))
 (endB false false n (.bool false) H14 (E14 ++ (E12 ++ (E11 ++ (E8 ++ (E5 ++ (E4 ++ (E3 ++ (E2 ++ (E1 ++ [])))))))))))
 (endB false false n (.bool false) H14 (E14 ++ (E12 ++ (E11 ++ (E8 ++ (E5 ++ (E4 ++ (E3 ++ (E2 ++ (E1 ++ [])))))))))))
 ((loadA true 5 a11 H14).bind fun a23 =>
 callK (EV C) false n_tree_Digest [x0, a23] H14 fun a24 H24 E24 =>
 (extA a24 0).bind fun a25 =>
 (extA a24 1).bind fun a26 =>
 (loadA true 5 a11 (H24 ++ [.vrow])).bind fun a27 =>
 callK (EV C) false n_tree_List [a27] (H24 ++ [.vrow]) fun a28 H28 E28 =>
 law07_ProofRoots_J11 n a1 a2 a4 a15 a25 a26 (.slc (List.length H24) 0 0 0) a28 (.int .i64 0) H28 (E28 ++ (E24 ++ (E14 ++ (E12 ++ (E11 ++ (E8 ++ (E5 ++ (E4 ++ (E3 ++ (E2 ++ (E1 ++ []))))))))))))))) (List.length H) = some r) : EV C n_law07_ProofRoots [x0, x1, x2] H = some r :=
 EV_of_fnK' (fn := Tryd.f12) (by kernel_rfl) (by kernel_rfl) (by kernel_rfl) hh
end Go.Pm
