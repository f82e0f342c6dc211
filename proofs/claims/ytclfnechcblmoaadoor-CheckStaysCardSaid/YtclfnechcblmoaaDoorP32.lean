/- A part of the proof: what the functions of the program answer, as plain lists and numbers. -/
import Derived.Test.YtclfnechcblmoaaDoorP9
namespace Go.Pm
open Go.Proofs
set_option linter.unusedVariables false
set_option maxRecDepth 100000
noncomputable def law08_CheckStays_J12 (n : Nat) (t3 t5 t6 t11 t12 t13 t14 t15 t16 : AV) (H : List AObj) (E : List Nat) : Option R3 :=
 loopK Tryd.prog C.G (EV C) (C.hint 14) Tryd.f14 (cAt (bodyOf Tryd.f14) [1, 1, 1, 1, 1, 1, 1, 1, 1, 1, 0, 1, 0, 0]) (kAt Tryd.prog C.G (EV C) (C.hint 14) Tryd.f14 (bodyOf Tryd.f14) [1, 1, 1, 1, 1, 1, 1, 1, 1, 1, 0, 1, 0] [] (endK Tryd.prog (C.hint 14) Tryd.f14 n))
 ⟨pat 120 [(3, t3), (5, t5), (6, t6), (11, t11), (12, t12), (13, t13), (14, t14), (15, t15), (16, t16)], H, E⟩
noncomputable def law08_CheckStays_J15 (n : Nat) (Ha : List AObj) (Ea : List Nat) (t3 t5 t6 t11 t12 t13 t14 t15 t16 t17 : AV) (H : List AObj) (E : List Nat) : Option R3 :=
 loopK Tryd.prog C.G (EV C) (C.hint 14) Tryd.f14 (cAt (bodyOf Tryd.f14) [1, 1, 1, 1, 1, 1, 1, 1, 1, 1, 0, 1, 0, 0, 1, 0, 0, 1, 0, 0]) (kAt Tryd.prog C.G (EV C) (C.hint 14) Tryd.f14 (bodyOf Tryd.f14) [1, 1, 1, 1, 1, 1, 1, 1, 1, 1, 0, 1, 0, 0, 1, 0, 0, 1, 0] [(Ha, Ea)] (endK Tryd.prog (C.hint 14) Tryd.f14 n))
 ⟨pat 120 [(3, t3), (5, t5), (6, t6), (11, t11), (12, t12), (13, t13), (14, t14), (15, t15), (16, t16), (17, t17)], H, E⟩
theorem law08_CheckStays_J12_of {r : R3} {n : Nat} {t3 t5 t6 t11 t12 t13 t14 t15 t16 : AV} {H : List AObj} {E : List Nat} (hh : (
 (lenV t13 H).bind fun a1 =>
 (binA .lss (Go.TypeDesc.int Go.IntKind.i64) (cmpT Tryd.prog) false t16 a1).bind fun a2 =>
 condK a2
 (law08_CheckStays_J15 n H E t3 t5 t6 t11 t12 t13 t14 t15 t16 (.int .i64 0) H [])
 ((loadA true 3 t3 H).bind fun a3 =>
 (loadA true 5 t11 H).bind fun a4 =>
 callK (EV C) false n_check_Check [(.int .i64 4), t12, a3, a4] H fun a5 H5 E5 =>
 (extA a5 0).bind fun a6 =>
 (extA a5 1).bind fun a7 =>
 splitK t5
 (splitK t15
 ((binA .eql (Go.TypeDesc.interface #[("Error", 138)]) (cmpT Tryd.prog) true t14 .nili).bind fun a8 =>
 splitK a8
 ((binA .eql (Go.TypeDesc.interface #[("Error", 138)]) (cmpT Tryd.prog) true a7 .nili).bind fun a9 =>
 splitK a9
 ((loadA true 5 t6 H5).bind fun a10 =>
 (loadA true 3 t3 H5).bind fun a11 =>
 callK (EV C) false n_ref06_Range [a10, a11] H5 fun a12 H12 E12 =>
 callK (EV C) false n_ref06_Same [a6, a12] H12 fun a13 H13 E13 =>
 endB false false n a13 H13 (E13 ++ (E12 ++ (E5 ++ E))))
 (endB false false n (.bool false) H5 (E5 ++ E)))
 (endB false false n (.bool false) H5 (E5 ++ E)))
 (endB false false n (.bool false) H5 (E5 ++ E)))
 (endB false false n (.bool false) H5 (E5 ++ E)))) = some r) : law08_CheckStays_J12 n t3 t5 t6 t11 t12 t13 t14 t15 t16 H E = some r :=
 loop_step' (by kernel_rfl) hh
theorem law08_CheckStays_J15_of {r : R3} {n : Nat} {Ha : List AObj} {Ea : List Nat} {t3 t5 t6 t11 t12 t13 t14 t15 t16 t17 : AV} {H : List AObj} {E : List Nat} (hh : (
 (ixA 2 t13 t16 H).bind fun a1 =>
 (offA a1 1).bind fun a2 =>
 (loadA false 1 a2 H).bind fun a3 =>
 (lenV a3 H).bind fun a4 =>
 (binA .lss (Go.TypeDesc.int Go.IntKind.i64) (cmpT Tryd.prog) false t17 a4).bind fun a5 =>
 condK a5
 ((ixA 2 t13 t16 H).bind fun a6 =>
 (offA a6 1).bind fun a7 =>
 (loadA false 1 a7 H).bind fun a8 =>
 (ixA 2 t13 t16 H).bind fun a9 =>
 (offA a9 1).bind fun a10 =>
 (loadA false 1 a10 H).bind fun a11 =>
 (ixA 1 a11 t17 H).bind fun a12 =>
 (loadA false 1 a12 H).bind fun a13 =>
 (binA .add (Go.TypeDesc.int Go.IntKind.u8) (cmpT Tryd.prog) true a13 (.int .u8 1)).bind fun a14 =>
 (ixA 1 a8 t17 H).bind fun a15 =>
 stoK 1 a15 a14 H fun H16 E16 =>
 (binA .add (Go.TypeDesc.int Go.IntKind.i64) (cmpT Tryd.prog) true t17 (.int .i64 1)).bind fun a17 =>
 law08_CheckStays_J15 n Ha Ea t3 t5 t6 t11 t12 t13 t14 t15 t16 a17 H16 ((E16 ++ []) ++ E))
 ((binA .add (Go.TypeDesc.int Go.IntKind.i64) (cmpT Tryd.prog) true t16 (.int .i64 1)).bind fun a18 =>
 law08_CheckStays_J12 n t3 t5 t6 t11 t12 t13 t14 t15 a18 H (E ++ Ea))) = some r) : law08_CheckStays_J15 n Ha Ea t3 t5 t6 t11 t12 t13 t14 t15 t16 t17 H E = some r :=
 loop_step' (by kernel_rfl) hh
theorem law08_CheckStays_of {r : R3} {x0 x1 : AV} {H : List AObj} (hh : (fun n => (
 newK x1 H fun a1 H1 E1 =>
 callK (EV C) false n_law08_up [] H1 fun a2 H2 E2 =>
 callK (EV C) false n_ref05_Grown [x0] H2 fun a3 H3 E3 =>
 newK (.agg [(.int .i64 0), .nils, .nils, .nils, .nils]) H3 fun a4 H4 E4 =>
 stoK 5 a4 a3 H4 fun H5 E5 =>
 (loadA true 5 a4 H5).bind fun a6 =>
 callK (EV C) false n_tree_Digest [(.int .i64 4), a6] H5 fun a7 H7 E7 =>
 (extA a7 0).bind fun a8 =>
 (extA a7 1).bind fun a9 =>
 (loadA true 5 a4 H7).bind fun a10 =>
 (loadA true 3 a1 H7).bind fun a11 =>
 callK (EV C) false n_proof_Prove [(.int .i64 4), a10, a11] H7 fun a12 H12 E12 =>
 (extA a12 0).bind fun a13 =>
 (extA a12 1).bind fun a14 =>
 newK (.agg [(.int .i64 0), .nils, .nils, .nils, .nils]) H12 fun a15 H15 E15 =>
 stoK 5 a15 a13 H15 fun H16 E16 =>
 (binA .neq (Go.TypeDesc.interface #[("Error", 138)]) (cmpT Tryd.prog) true a9 .nili).bind fun a17 =>
 splitK a17
 (endB false false n (.bool false) H16 (E16 ++ (E15 ++ (E12 ++ (E7 ++ (E5 ++ (E4 ++ (E3 ++ (E2 ++ (E1 ++ []))))))))))
 ((binA .neq (Go.TypeDesc.interface #[("Error", 138)]) (cmpT Tryd.prog) true a14 .nili).bind fun a18 =>
 condK a18
 (endB false false n (.bool false) H16 (E16 ++ (E15 ++ (E12 ++ (E7 ++ (E5 ++ (E4 ++ (E3 ++ (E2 ++ (E1 ++ []))))))))))
 ((loadA true 5 a15 H16).bind fun a19 =>
 callK (EV C) false n_ref04_Copy [a19] H16 fun a20 H20 E20 =>
 newK (.agg [(.int .i64 0), .nils, .nils, .nils, .nils]) H20 fun a21 H21 E21 =>
 stoK 5 a21 a20 H21 fun H22 E22 =>
 (appD 1 1 (AV.emp none) a8 H22).bind fun a23 =>
 (loadA true 3 a1 H22).bind fun a24 =>
 (loadA true 5 a21 H22).bind fun a25 =>
 callK (EV C) true n_check_Check_r [(.int .i64 4), a23, a24, a25] H22 fun a26 H26 E26 =>
 (extA a26 0).bind fun a27 =>
 (extA a26 1).bind fun a28 =>
 (loadA true 5 a21 H26).bind fun a29 =>
 (loadA true 5 a15 H26).bind fun a30 =>
 callK (EV C) false n_ref04_Same [a29, a30] H26 fun a31 H31 E31 =>
 splitK a31
 ((cvL a23 H31).bind fun a32 =>
 (cvL a8 H31).bind fun a33 =>
 (binA .eql Go.TypeDesc.string (cmpT Tryd.prog) false a32 a33).bind fun a34 =>
 law08_CheckStays_J12 n a1 a2 a4 a21 a23 a27 a28 a34 (.int .i64 0) H31 (E31 ++ (E26 ++ (E22 ++ (E21 ++ (E20 ++ (E16 ++ (E15 ++ (E12 ++ (E7 ++ (E5 ++ (E4 ++ (E3 ++ (E2 ++ (E1 ++ [])))))))))))))))
 (law08_CheckStays_J12 n a1 a2 a4 a21 a23 a27 a28 (.bool false) (.int .i64 0) H31 (E31 ++ (E26 ++ (E22 ++ (E21 ++ (E20 ++ (E16 ++ (E15 ++ (E12 ++ (E7 ++ (E5 ++ (E4 ++ (E3 ++ (E2 ++ (E1 ++ []))))))))))))))))))) (List.length H) = some r) : EV C n_law08_CheckStays [x0, x1] H = some r :=
 EV_of_fnK' (fn := Tryd.f14) (by kernel_rfl) (by kernel_rfl) (by kernel_rfl) hh
end Go.Pm
