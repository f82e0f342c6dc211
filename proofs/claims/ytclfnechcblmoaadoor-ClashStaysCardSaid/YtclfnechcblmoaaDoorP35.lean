/- A part of the proof: what the functions of the program answer, as plain lists and numbers. -/
import Derived.Test.YtclfnechcblmoaaDoorP9
namespace Go.Pm
open Go.Proofs
set_option linter.unusedVariables false
set_option maxRecDepth 100000
noncomputable def law09_ClashStays_J13 (n : Nat) (t0 t4 t5 t7 t9 t10 t11 t12 t13 t14 t15 t16 : AV) (H : List AObj) (E : List Nat) : Option R3 :=
 loopK Tryd.prog C.G (EV C) (C.hint 9) Tryd.f9 (cAt (bodyOf Tryd.f9) [1, 1, 1, 1, 1, 1, 1, 1, 1, 1, 0, 1, 0, 0]) (kAt Tryd.prog C.G (EV C) (C.hint 9) Tryd.f9 (bodyOf Tryd.f9) [1, 1, 1, 1, 1, 1, 1, 1, 1, 1, 0, 1, 0] [] (endK Tryd.prog (C.hint 9) Tryd.f9 n))
 ⟨pat 128 [(0, t0), (4, t4), (5, t5), (7, t7), (9, t9), (10, t10), (11, t11), (12, t12), (13, t13), (14, t14), (15, t15), (16, t16)], H, E⟩
noncomputable def law09_ClashStays_J16 (n : Nat) (Ha : List AObj) (Ea : List Nat) (t0 t4 t5 t7 t9 t10 t11 t12 t13 t14 t15 t16 t17 : AV) (H : List AObj) (E : List Nat) : Option R3 :=
 loopK Tryd.prog C.G (EV C) (C.hint 9) Tryd.f9 (cAt (bodyOf Tryd.f9) [1, 1, 1, 1, 1, 1, 1, 1, 1, 1, 0, 1, 0, 0, 1, 0, 0, 1, 0, 0]) (kAt Tryd.prog C.G (EV C) (C.hint 9) Tryd.f9 (bodyOf Tryd.f9) [1, 1, 1, 1, 1, 1, 1, 1, 1, 1, 0, 1, 0, 0, 1, 0, 0, 1, 0] [(Ha, Ea)] (endK Tryd.prog (C.hint 9) Tryd.f9 n))
 ⟨pat 128 [(0, t0), (4, t4), (5, t5), (7, t7), (9, t9), (10, t10), (11, t11), (12, t12), (13, t13), (14, t14), (15, t15), (16, t16), (17, t17)], H, E⟩
theorem law09_ClashStays_J13_of {r : R3} {n : Nat} {t0 t4 t5 t7 t9 t10 t11 t12 t13 t14 t15 t16 : AV} {H : List AObj} {E : List Nat} (hh : (
 (lenV t15 H).bind fun a1 =>
 (binA .lss (Go.TypeDesc.int Go.IntKind.i64) (cmpT Tryd.prog) false t16 a1).bind fun a2 =>
 condK a2
 (law09_ClashStays_J16 n H E t0 t4 t5 t7 t9 t10 t11 t12 t13 t14 t15 t16 (.int .i64 0) H [])
 ((loadA true 5 t4 H).bind fun a3 =>
 (loadA true 5 t5 H).bind fun a4 =>
 callK (EV C) false n_clash_Find [t0, a3, a4] H fun a5 H5 E5 =>
 (extA a5 0).bind fun a6 =>
 (extA a5 1).bind fun a7 =>
 (extA a5 2).bind fun a8 =>
 splitK t7
 (splitK t12
 (callK (EV C) false n_law00_Code [t11] H5 fun a9 H9 E9 =>
 callK (EV C) false n_law00_Code [a8] H9 fun a10 H10 E10 =>
 (binA .eql (Go.TypeDesc.int Go.IntKind.i64) (cmpT Tryd.prog) false a9 a10).bind fun a11 =>
 splitK a11
 ((cvL t9 H10).bind fun a12 =>
 (binA .eql Go.TypeDesc.string (cmpT Tryd.prog) false t13 a12).bind fun a13 =>
 splitK a13
 ((cvL t10 H10).bind fun a14 =>
 (binA .eql Go.TypeDesc.string (cmpT Tryd.prog) false t14 a14).bind fun a15 =>
 splitK a15
 ((cvL a6 H10).bind fun a16 =>
 (binA .eql Go.TypeDesc.string (cmpT Tryd.prog) false a16 t13).bind fun a17 =>
 splitK a17
 ((cvL a7 H10).bind fun a18 =>
 (binA .eql Go.TypeDesc.string (cmpT Tryd.prog) false a18 t14).bind fun a19 =>
 endB false false n a19 H10 (E10 ++ (E9 ++ (E5 ++ E))))
 (endB false false n (.bool false) H10 (E10 ++ (E9 ++ (E5 ++ E)))))
 (endB false false n (.bool false) H10 (E10 ++ (E9 ++ (E5 ++ E)))))
 (endB false false n (.bool false) H10 (E10 ++ (E9 ++ (E5 ++ E)))))
 (endB false false n (.bool false) H10 (E10 ++ (E9 ++ (E5 ++ E)))))
 (endB false false n (.bool false) H5 (E5 ++ E)))
 (endB false false n (.bool false) H5 (E5 ++ E)))) = some r) : law09_ClashStays_J13 n t0 t4 t5 t7 t9 t10 t11 t12 t13 t14 t15 t16 H E = some r :=
 loop_step' (by kernel_rfl) hh
theorem law09_ClashStays_J16_of {r : R3} {n : Nat} {Ha : List AObj} {Ea : List Nat} {t0 t4 t5 t7 t9 t10 t11 t12 t13 t14 t15 t16 t17 : AV} {H : List AObj} {E : List Nat} (hh : (
 (ixA 5 t15 t16 H).bind fun a1 =>
 (offA a1 2).bind fun a2 =>
 (loadA false 1 a2 H).bind fun a3 =>
 (lenV a3 H).bind fun a4 =>
 (binA .lss (Go.TypeDesc.int Go.IntKind.i64) (cmpT Tryd.prog) false t17 a4).bind fun a5 =>
 condK a5
 ((ixA 5 t15 t16 H).bind fun a6 =>
 (offA a6 2).bind fun a7 =>
 (loadA false 1 a7 H).bind fun a8 =>
 (ixA 5 t15 t16 H).bind fun a9 =>
 (offA a9 2).bind fun a10 =>
 (loadA false 1 a10 H).bind fun a11 =>
 (ixA 1 a11 t17 H).bind fun a12 =>
 (loadA false 1 a12 H).bind fun a13 =>
 (binA .add (Go.TypeDesc.int Go.IntKind.u8) (cmpT Tryd.prog) true a13 (.int .u8 1)).bind fun a14 =>
 (ixA 1 a8 t17 H).bind fun a15 =>
 stoK 1 a15 a14 H fun H16 E16 =>
 (binA .add (Go.TypeDesc.int Go.IntKind.i64) (cmpT Tryd.prog) true t17 (.int .i64 1)).bind fun a17 =>
 law09_ClashStays_J16 n Ha Ea t0 t4 t5 t7 t9 t10 t11 t12 t13 t14 t15 t16 a17 H16 ((E16 ++ []) ++ E))
 ((binA .add (Go.TypeDesc.int Go.IntKind.i64) (cmpT Tryd.prog) true t16 (.int .i64 1)).bind fun a18 =>
 law09_ClashStays_J13 n t0 t4 t5 t7 t9 t10 t11 t12 t13 t14 t15 a18 H (E ++ Ea))) = some r) : law09_ClashStays_J16 n Ha Ea t0 t4 t5 t7 t9 t10 t11 t12 t13 t14 t15 t16 t17 H E = some r :=
 loop_step' (by kernel_rfl) hh
theorem law09_ClashStays_of {r : R3} {x0 x1 x2 : AV} {H : List AObj} (hh : (fun n => (
 newK x1 H fun a1 H1 E1 =>
 newK x2 H1 fun a2 H2 E2 =>
 callK (EV C) false n_law09_up [] H2 fun a3 H3 E3 =>
 (loadA true 5 a1 H3).bind fun a4 =>
 callK (EV C) false n_law09_small [a4] H3 fun a5 H5 E5 =>
 (unA .not a5).bind fun a6 =>
 splitK a6
 (endB false false n a3 H5 (E5 ++ (E3 ++ (E2 ++ (E1 ++ [])))))
 ((loadA true 5 a2 H5).bind fun a7 =>
 callK (EV C) false n_law09_small [a7] H5 fun a8 H8 E8 =>
 (unA .not a8).bind fun a9 =>
 condK a9
 (endB false false n a3 H8 (E8 ++ (E5 ++ (E3 ++ (E2 ++ (E1 ++ []))))))
 ((loadA true 5 a1 H8).bind fun a10 =>
 callK (EV C) true n_ref04_Copy_r [a10] H8 fun a11 H11 E11 =>
 newK (.agg [(.int .i64 0), .nils, .nils, .nils, .nils]) H11 fun a12 H12 E12 =>
 stoK 5 a12 a11 H12 fun H13 E13 =>
 (loadA true 5 a12 H13).bind fun a14 =>
 (loadA true 5 a2 H13).bind fun a15 =>
 calXK (EV C) 13 n_clash_Find [x0, a14, a15] H13 fun a16 H16 E16 =>
 (extA a16 0).bind fun a17 =>
 (extA a16 1).bind fun a18 =>
 (extA a16 2).bind fun a19 =>
 (loadA true 5 a12 H16).bind fun a20 =>
 (loadA true 5 a1 H16).bind fun a21 =>
 calXK (EV C) 12 n_ref04_Same [a20, a21] H16 fun a22 H22 E22 =>
 (cvL a17 H22).bind fun a23 =>
 (cvL a18 H22).bind fun a24 =>
 (loadA true 5 a12 H22).bind fun a25 =>
 calXK (EV C) 12 n_ref04_Check [a25] H22 fun a26 H26 E26 =>
 (binA .eql (Go.TypeDesc.int Go.IntKind.i64) (cmpT Tryd.prog) true a26 (.int .i64 0)).bind fun a27 =>
 condK a27
 ((loadA true 5 a12 H26).bind fun a28 =>
 callK (EV C) true n_ref04_List_r [a28] H26 fun a29 H29 E29 =>
 law09_ClashStays_J13 n x0 a1 a2 a3 a17 a18 a19 a22 a23 a24 a29 (.int .i64 0) H29 (E29 ++ (E26 ++ (E22 ++ (E16 ++ (E13 ++ (E12 ++ (E11 ++ (E8 ++ (E5 ++ (E3 ++ (E2 ++ (E1 ++ [])))))))))))))
 (law09_ClashStays_J13 n x0 a1 a2 a3 a17 a18 a19 a22 a23 a24 .nils (.int .i64 0) H26 (E26 ++ (E22 ++ (E16 ++ (E13 ++ (E12 ++ (E11 ++ (E8 ++ (E5 ++ (E3 ++ (E2 ++ (E1 ++ [])))))))))))))))) (List.length H) = some r) : EV C n_law09_ClashStays [x0, x1, x2] H = some r :=
 EV_of_fnK' (fn := Tryd.f9) (by kernel_rfl) (by kernel_rfl) (by kernel_rfl) hh
end Go.Pm
