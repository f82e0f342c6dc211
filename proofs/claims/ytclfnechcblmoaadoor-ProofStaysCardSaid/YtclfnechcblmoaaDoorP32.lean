/- A part of the proof: what the functions of the program answer, as plain lists and numbers. -/
import Derived.Test.YtclfnechcblmoaaDoorP9
namespace Go.Pm
open Go.Proofs
set_option linter.unusedVariables false
set_option maxRecDepth 100000
noncomputable def law07_ProofStays_J9 (n : Nat) (t3 t5 t6 t8 t9 t10 t11 t12 t13 : AV) (H : List AObj) (E : List Nat) : Option R3 :=
 loopK Tryd.prog C.G (EV C) (C.hint 13) Tryd.f13 (cAt (bodyOf Tryd.f13) [1, 1, 1, 1, 1, 1, 1, 1, 0, 1, 0, 0]) (kAt Tryd.prog C.G (EV C) (C.hint 13) Tryd.f13 (bodyOf Tryd.f13) [1, 1, 1, 1, 1, 1, 1, 1, 0, 1, 0] [] (endK Tryd.prog (C.hint 13) Tryd.f13 n))
 ⟨pat 122 [(3, t3), (5, t5), (6, t6), (8, t8), (9, t9), (10, t10), (11, t11), (12, t12), (13, t13)], H, E⟩
noncomputable def law07_ProofStays_J12 (n : Nat) (Ha : List AObj) (Ea : List Nat) (t3 t5 t6 t8 t9 t10 t11 t12 t13 t14 : AV) (H : List AObj) (E : List Nat) : Option R3 :=
 loopK Tryd.prog C.G (EV C) (C.hint 13) Tryd.f13 (cAt (bodyOf Tryd.f13) [1, 1, 1, 1, 1, 1, 1, 1, 0, 1, 0, 0, 1, 0, 0, 0, 1, 0, 0]) (kAt Tryd.prog C.G (EV C) (C.hint 13) Tryd.f13 (bodyOf Tryd.f13) [1, 1, 1, 1, 1, 1, 1, 1, 0, 1, 0, 0, 1, 0, 0, 0, 1, 0] [(Ha, Ea)] (endK Tryd.prog (C.hint 13) Tryd.f13 n))
 ⟨pat 122 [(3, t3), (5, t5), (6, t6), (8, t8), (9, t9), (10, t10), (11, t11), (12, t12), (13, t13), (14, t14)], H, E⟩
noncomputable def law07_ProofStays_J16 (n : Nat) (Ha : List AObj) (Ea : List Nat) (t3 t5 t6 t8 t9 t10 t11 t12 t13 t15 : AV) (H : List AObj) (E : List Nat) : Option R3 :=
 loopK Tryd.prog C.G (EV C) (C.hint 13) Tryd.f13 (cAt (bodyOf Tryd.f13) [1, 1, 1, 1, 1, 1, 1, 1, 0, 1, 0, 0, 1, 0, 0, 1, 1, 0, 0]) (kAt Tryd.prog C.G (EV C) (C.hint 13) Tryd.f13 (bodyOf Tryd.f13) [1, 1, 1, 1, 1, 1, 1, 1, 0, 1, 0, 0, 1, 0, 0, 1, 1, 0] [(Ha, Ea)] (endK Tryd.prog (C.hint 13) Tryd.f13 n))
 ⟨pat 122 [(3, t3), (5, t5), (6, t6), (8, t8), (9, t9), (10, t10), (11, t11), (12, t12), (13, t13), (15, t15)], H, E⟩
theorem law07_ProofStays_J9_of {r : R3} {n : Nat} {t3 t5 t6 t8 t9 t10 t11 t12 t13 : AV} {H : List AObj} {E : List Nat} (hh : (
 (lenV t12 H).bind fun a1 =>
 (binA .lss (Go.TypeDesc.int Go.IntKind.i64) (cmpT Tryd.prog) false t13 a1).bind fun a2 =>
 condK a2
 (law07_ProofStays_J12 n H E t3 t5 t6 t8 t9 t10 t11 t12 t13 (.int .i64 0) H [])
 ((loadA true 5 t6 H).bind fun a3 =>
 (loadA true 3 t3 H).bind fun a4 =>
 callK (EV C) false n_proof_Prove [(.int .i64 4), a3, a4] H fun a5 H5 E5 =>
 (extA a5 0).bind fun a6 =>
 (extA a5 1).bind fun a7 =>
 newK (.agg [(.int .i64 0), .nils, .nils, .nils, .nils]) H5 fun a8 H8 E8 =>
 stoK 5 a8 a6 H8 fun H9 E9 =>
 splitK t5
 (splitK t11
 ((binA .eql (Go.TypeDesc.interface #[("Error", 138)]) (cmpT Tryd.prog) true t9 .nili).bind fun a10 =>
 splitK a10
 ((binA .eql (Go.TypeDesc.interface #[("Error", 138)]) (cmpT Tryd.prog) true a7 .nili).bind fun a11 =>
 splitK a11
 ((loadA true 5 t8 H9).bind fun a12 =>
 (loadA true 5 t10 H9).bind fun a13 =>
 callK (EV C) false n_ref04_Same [a12, a13] H9 fun a14 H14 E14 =>
 splitK a14
 ((loadA true 5 t8 H14).bind fun a15 =>
 (loadA true 5 a8 H14).bind fun a16 =>
 callK (EV C) false n_ref04_Same [a15, a16] H14 fun a17 H17 E17 =>
 endB false false n a17 H17 (E17 ++ (E14 ++ (E9 ++ (E8 ++ (E5 ++ E))))))
 (endB false false n (.bool false) H14 (E14 ++ (E9 ++ (E8 ++ (E5 ++ E))))))
 (endB false false n (.bool false) H9 (E9 ++ (E8 ++ (E5 ++ E)))))
 (endB false false n (.bool false) H9 (E9 ++ (E8 ++ (E5 ++ E)))))
 (endB false false n (.bool false) H9 (E9 ++ (E8 ++ (E5 ++ E)))))
 (endB false false n (.bool false) H9 (E9 ++ (E8 ++ (E5 ++ E)))))) = some r) : law07_ProofStays_J9 n t3 t5 t6 t8 t9 t10 t11 t12 t13 H E = some r :=
 loop_step' (by kernel_rfl) hh
theorem law07_ProofStays_J12_of {r : R3} {n : Nat} {Ha : List AObj} {Ea : List Nat} {t3 t5 t6 t8 t9 t10 t11 t12 t13 t14 : AV} {H : List AObj} {E : List Nat} (hh : (
 (ixA 5 t12 t13 H).bind fun a1 =>
 (offA a1 1).bind fun a2 =>
 (loadA false 1 a2 H).bind fun a3 =>
 (lenV a3 H).bind fun a4 =>
 (binA .lss (Go.TypeDesc.int Go.IntKind.i64) (cmpT Tryd.prog) false t14 a4).bind fun a5 =>
 condK a5
 ((ixA 5 t12 t13 H).bind fun a6 =>
 (offA a6 1).bind fun a7 =>
 (loadA false 1 a7 H).bind fun a8 =>
 (ixA 5 t12 t13 H).bind fun a9 =>
 (offA a9 1).bind fun a10 =>
 (loadA false 1 a10 H).bind fun a11 =>
 (ixA 1 a11 t14 H).bind fun a12 =>
 (loadA false 1 a12 H).bind fun a13 =>
 (binA .add (Go.TypeDesc.int Go.IntKind.u8) (cmpT Tryd.prog) true a13 (.int .u8 1)).bind fun a14 =>
 (ixA 1 a8 t14 H).bind fun a15 =>
 stoK 1 a15 a14 H fun H16 E16 =>
 (binA .add (Go.TypeDesc.int Go.IntKind.i64) (cmpT Tryd.prog) true t14 (.int .i64 1)).bind fun a17 =>
 law07_ProofStays_J12 n Ha Ea t3 t5 t6 t8 t9 t10 t11 t12 t13 a17 H16 ((E16 ++ []) ++ E))
 (law07_ProofStays_J16 n Ha Ea t3 t5 t6 t8 t9 t10 t11 t12 t13 (.int .i64 0) H E)) = some r) : law07_ProofStays_J12 n Ha Ea t3 t5 t6 t8 t9 t10 t11 t12 t13 t14 H E = some r :=
 loop_step' (by kernel_rfl) hh
theorem law07_ProofStays_J16_of {r : R3} {n : Nat} {Ha : List AObj} {Ea : List Nat} {t3 t5 t6 t8 t9 t10 t11 t12 t13 t15 : AV} {H : List AObj} {E : List Nat} (hh : (
 (ixA 5 t12 t13 H).bind fun a1 =>
 (offA a1 2).bind fun a2 =>
 (loadA false 1 a2 H).bind fun a3 =>
 (lenV a3 H).bind fun a4 =>
 (binA .lss (Go.TypeDesc.int Go.IntKind.i64) (cmpT Tryd.prog) false t15 a4).bind fun a5 =>
 condK a5
 ((ixA 5 t12 t13 H).bind fun a6 =>
 (offA a6 2).bind fun a7 =>
 (loadA false 1 a7 H).bind fun a8 =>
 (ixA 5 t12 t13 H).bind fun a9 =>
 (offA a9 2).bind fun a10 =>
 (loadA false 1 a10 H).bind fun a11 =>
 (ixA 1 a11 t15 H).bind fun a12 =>
 (loadA false 1 a12 H).bind fun a13 =>
 (binA .add (Go.TypeDesc.int Go.IntKind.u8) (cmpT Tryd.prog) true a13 (.int .u8 1)).bind fun a14 =>
 (ixA 1 a8 t15 H).bind fun a15 =>
 stoK 1 a15 a14 H fun H16 E16 =>
 (binA .add (Go.TypeDesc.int Go.IntKind.i64) (cmpT Tryd.prog) true t15 (.int .i64 1)).bind fun a17 =>
 law07_ProofStays_J16 n Ha Ea t3 t5 t6 t8 t9 t10 t11 t12 t13 a17 H16 ((E16 ++ []) ++ E))
 ((binA .add (Go.TypeDesc.int Go.IntKind.i64) (cmpT Tryd.prog) true t13 (.int .i64 1)).bind fun a18 =>
 law07_ProofStays_J9 n t3 t5 t6 t8 t9 t10 t11 t12 a18 H (E ++ Ea))) = some r) : law07_ProofStays_J16 n Ha Ea t3 t5 t6 t8 t9 t10 t11 t12 t13 t15 H E = some r :=
 loop_step' (by kernel_rfl) hh
theorem law07_ProofStays_of {r : R3} {x0 x1 : AV} {H : List AObj} (hh : (fun n => (
 newK x1 H fun a1 H1 E1 =>
 callK (EV C) false n_law07_up [] H1 fun a2 H2 E2 =>
 callK (EV C) false n_ref05_Grown [x0] H2 fun a3 H3 E3 =>
 newK (.agg [(.int .i64 0), .nils, .nils, .nils, .nils]) H3 fun a4 H4 E4 =>
 stoK 5 a4 a3 H4 fun H5 E5 =>
 (loadA true 5 a4 H5).bind fun a6 =>
 callK (EV C) true n_ref04_Copy_r [a6] H5 fun a7 H7 E7 =>
 newK (.agg [(.int .i64 0), .nils, .nils, .nils, .nils]) H7 fun a8 H8 E8 =>
 stoK 5 a8 a7 H8 fun H9 E9 =>
 (loadA true 5 a8 H9).bind fun a10 =>
 (loadA true 3 a1 H9).bind fun a11 =>
 calXK (EV C) 13 n_proof_Prove [(.int .i64 4), a10, a11] H9 fun a12 H12 E12 =>
 (extA a12 0).bind fun a13 =>
 (extA a12 1).bind fun a14 =>
 newK (.agg [(.int .i64 0), .nils, .nils, .nils, .nils]) H12 fun a15 H15 E15 =>
 stoK 5 a15 a13 H15 fun H16 E16 =>
 (loadA true 5 a15 H16).bind fun a17 =>
 callK (EV C) false n_ref04_Copy [a17] H16 fun a18 H18 E18 =>
 newK (.agg [(.int .i64 0), .nils, .nils, .nils, .nils]) H18 fun a19 H19 E19 =>
 stoK 5 a19 a18 H19 fun H20 E20 =>
 (loadA true 5 a8 H20).bind fun a21 =>
 (loadA true 5 a4 H20).bind fun a22 =>
 calXK (EV C) 12 n_ref04_Same [a21, a22] H20 fun a23 H23 E23 =>
 (loadA true 5 a8 H23).bind fun a24 =>
 callK (EV C) true n_ref04_List_r [a24] H23 fun a25 H25 E25 =>
 law07_ProofStays_J9 n a1 a2 a4 a15 a14 a19 a23 a25 (.int .i64 0) H25 (E25 ++ (E23 ++ (E20 ++ (E19 ++ (E18 ++ (E16 ++ (E15 ++ (E12 ++ (E9 ++ (E8 ++ (E7 ++ (E5 ++ (E4 ++ (E3 ++ (E2 ++ (E1 ++ [])))))))))))))))))) (List.length H) = some r) : EV C n_law07_ProofStays [x0, x1] H = some r :=
 EV_of_fnK' (fn := Tryd.f13) (by kernel_rfl) (by kernel_rfl) (by kernel_rfl) hh
end Go.Pm
