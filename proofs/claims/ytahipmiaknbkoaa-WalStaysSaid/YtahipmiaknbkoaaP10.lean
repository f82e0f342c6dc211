/- A part of the proof: what the functions of the program answer, as plain lists and numbers. -/
import Derived.Test.YtahipmiaknbkoaaP9
namespace Go.Pm
open Go.Proofs
set_option linter.unusedVariables false
set_option maxRecDepth 100000
noncomputable def law16_WalStays_J12 (n : Nat) (t0 t1 t5 t6 t11 t12 t13 t14 : AV) (H : List AObj) (E : List Nat) : Option R3 :=
 loopK Try.prog C.G (EV C) (C.hint 7) Try.f7 (cAt (bodyOf Try.f7) [1, 1, 1, 1, 1, 1, 1, 1, 1, 0, 1, 0, 0]) (kAt Try.prog C.G (EV C) (C.hint 7) Try.f7 (bodyOf Try.f7) [1, 1, 1, 1, 1, 1, 1, 1, 1, 0, 1, 0] [] (endK Try.prog (C.hint 7) Try.f7 n))
 ⟨pat 158 [(0, t0), (1, t1), (5, t5), (6, t6), (11, t11), (12, t12), (13, t13), (14, t14)], H, E⟩
noncomputable def law16_WalStays_J18 (n : Nat) (t0 t1 t5 t6 t12 t13 t15 t16 t17 t18 : AV) (H : List AObj) (E : List Nat) : Option R3 :=
 loopK Try.prog C.G (EV C) (C.hint 7) Try.f7 (cAt (bodyOf Try.f7) [1, 1, 1, 1, 1, 1, 1, 1, 1, 1, 1, 1, 0, 1, 0, 0]) (kAt Try.prog C.G (EV C) (C.hint 7) Try.f7 (bodyOf Try.f7) [1, 1, 1, 1, 1, 1, 1, 1, 1, 1, 1, 1, 0, 1, 0] [] (endK Try.prog (C.hint 7) Try.f7 n))
 ⟨pat 158 [(0, t0), (1, t1), (5, t5), (6, t6), (12, t12), (13, t13), (15, t15), (16, t16), (17, t17), (18, t18)], H, E⟩
theorem law16_WalStays_J12_of {r : R3} {n : Nat} {t0 t1 t5 t6 t11 t12 t13 t14 : AV} {H : List AObj} {E : List Nat} (hh : (
 (lenV t11 H).bind fun a1 =>
 (binA .lss (Go.TypeDesc.int Go.IntKind.i64) (cmpT Try.prog) false t14 a1).bind fun a2 =>
 condK a2
 ((ixA 1 t11 t14 H).bind fun a3 =>
 (loadA false 1 a3 H).bind fun a4 =>
 (binA .add (Go.TypeDesc.int Go.IntKind.u8) (cmpT Try.prog) true a4 (.int .u8 1)).bind fun a5 =>
 (ixA 1 t11 t14 H).bind fun a6 =>
 stoK 1 a6 a5 H fun H7 E7 =>
 (binA .add (Go.TypeDesc.int Go.IntKind.i64) (cmpT Try.prog) true t14 (.int .i64 1)).bind fun a8 =>
 law16_WalStays_J12 n t0 t1 t5 t6 t11 t12 t13 a8 H7 ((E7 ++ []) ++ E))
 (rawK 1 0 (.int .u8 0) [] H fun a9 H9 E9 =>
 appK 1 1 a9 t1 H9 fun a10 H10 E10 =>
 calXK (EV C) 13 n_wal_Scan [a10] H10 fun a11 H11 E11 =>
 (extA a11 0).bind fun a12 =>
 (extA a11 1).bind fun a13 =>
 law16_WalStays_J18 n t0 t1 t5 t6 t12 t13 a10 a12 a13 (.int .i64 0) H11 (E11 ++ (E10 ++ (E9 ++ E))))) = some r) : law16_WalStays_J12 n t0 t1 t5 t6 t11 t12 t13 t14 H E = some r :=
 loop_step' (by kernel_rfl) hh
theorem law16_WalStays_J18_of {r : R3} {n : Nat} {t0 t1 t5 t6 t12 t13 t15 t16 t17 t18 : AV} {H : List AObj} {E : List Nat} (hh : (
 (lenV t15 H).bind fun a1 =>
 (binA .lss (Go.TypeDesc.int Go.IntKind.i64) (cmpT Try.prog) false t18 a1).bind fun a2 =>
 condK a2
 ((ixA 1 t15 t18 H).bind fun a3 =>
 (loadA false 1 a3 H).bind fun a4 =>
 (binA .add (Go.TypeDesc.int Go.IntKind.u8) (cmpT Try.prog) true a4 (.int .u8 1)).bind fun a5 =>
 (ixA 1 t15 t18 H).bind fun a6 =>
 stoK 1 a6 a5 H fun H7 E7 =>
 (binA .add (Go.TypeDesc.int Go.IntKind.i64) (cmpT Try.prog) true t18 (.int .i64 1)).bind fun a8 =>
 law16_WalStays_J18 n t0 t1 t5 t6 t12 t13 t15 t16 t17 a8 H7 ((E7 ++ []) ++ E))
 (callK (EV C) false n_wal_Scan [t1] H fun a9 H9 E9 =>
 (extA a9 0).bind fun a10 =>
 (extA a9 1).bind fun a11 =>
 callK (EV C) true n_wal_Open [t6] H9 fun a12 H12 E12 =>
 (extA a12 0).bind fun a13 =>
 (extA a12 1).bind fun a14 =>
 (extA a12 2).bind fun a15 =>
 splitK t5
 (splitK t13
 ((binA .eql (Go.TypeDesc.interface #[("Error", 123)]) (cmpT Try.prog) true t12 .nili).bind fun a16 =>
 splitK a16
 ((binA .eql (Go.TypeDesc.interface #[("Error", 123)]) (cmpT Try.prog) true a15 .nili).bind fun a17 =>
 splitK a17
 ((callD (EV C) n_ref16_Same [t16, a10] H12).bind fun a18 =>
 splitK a18
 ((binA .eql (Go.TypeDesc.int Go.IntKind.i64) (cmpT Try.prog) false t17 a11).bind fun a19 =>
 splitK a19
 ((lenV a14 H12).bind fun a20 =>
 (binA .eql (Go.TypeDesc.int Go.IntKind.i64) (cmpT Try.prog) true a20 (.int .i64 1)).bind fun a21 =>
 splitK a21
 ((ixA 1 a14 (.int .i64 0) H12).bind fun a22 =>
 (loadA false 1 a22 H12).bind fun a23 =>
 (cvL a23 H12).bind fun a24 =>
 (cvL t0 H12).bind fun a25 =>
 (binA .eql Go.TypeDesc.string (cmpT Try.prog) false a24 a25).bind fun a26 =>
 endB false false n a26 H12 (E12 ++ (E9 ++ E)))
 (endB false false n (.bool false) H12 (E12 ++ (E9 ++ E))))
 (endB false false n (.bool false) H12 (E12 ++ (E9 ++ E))))
 (endB false false n (.bool false) H12 (E12 ++ (E9 ++ E))))
 (endB false false n (.bool false) H12 (E12 ++ (E9 ++ E))))
 (endB false false n (.bool false) H12 (E12 ++ (E9 ++ E))))
 (endB false false n (.bool false) H12 (E12 ++ (E9 ++ E))))
 (endB false false n (.bool false) H12 (E12 ++ (E9 ++ E))))) = some r) : law16_WalStays_J18 n t0 t1 t5 t6 t12 t13 t15 t16 t17 t18 H E = some r :=
 loop_step' (by kernel_rfl) hh
theorem law16_WalStays_of {r : R3} {x0 x1 : AV} {H : List AObj} (hh : (fun n => (
 callK (EV C) false n_law16_up [] H fun a1 H1 E1 =>
 (lenV x0 H1).bind fun a2 =>
 (binA .gtr (Go.TypeDesc.int Go.IntKind.i64) (cmpT Try.prog) true a2 (.int .i64 3000)).bind fun a3 =>
 splitK a3
 (endB false false n a1 H1 (E1 ++ []))
 ((lenV x1 H1).bind fun a4 =>
 (binA .gtr (Go.TypeDesc.int Go.IntKind.i64) (cmpT Try.prog) true a4 (.int .i64 3000)).bind fun a5 =>
 condK a5
 (endB false false n a1 H1 (E1 ++ []))
 (callK (EV C) true n_disk_New [(.int .i64 1048576)] H1 fun a6 H6 E6 =>
 (extA a6 0).bind fun a7 =>
 (extA a6 1).bind fun a8 =>
 callK (EV C) true n_wal_Open [a7] H6 fun a9 H9 E9 =>
 (extA a9 0).bind fun a10 =>
 (extA a9 1).bind fun a11 =>
 (extA a9 2).bind fun a12 =>
 (binA .eql (Go.TypeDesc.pointer 57) (cmpT Try.prog) true a7 .nilp).bind fun a13 =>
 splitK a13
 (endB false false n (.bool false) H9 (E9 ++ (E6 ++ (E1 ++ []))))
 ((binA .neq (Go.TypeDesc.interface #[("Error", 123)]) (cmpT Try.prog) true a8 .nili).bind fun a14 =>
 splitK a14
 (endB false false n (.bool false) H9 (E9 ++ (E6 ++ (E1 ++ []))))
 ((binA .eql (Go.TypeDesc.pointer 69) (cmpT Try.prog) true a10 .nilp).bind fun a15 =>
 splitK a15
 (endB false false n (.bool false) H9 (E9 ++ (E6 ++ (E1 ++ []))))
 ((binA .neq (Go.TypeDesc.interface #[("Error", 123)]) (cmpT Try.prog) true a12 .nili).bind fun a16 =>
 splitK a16
 (endB false false n (.bool false) H9 (E9 ++ (E6 ++ (E1 ++ []))))
 ((lenV a11 H9).bind fun a17 =>
 (binA .neq (Go.TypeDesc.int Go.IntKind.i64) (cmpT Try.prog) true a17 (.int .i64 0)).bind fun a18 =>
 condK a18
 (endB false false n (.bool false) H9 (E9 ++ (E6 ++ (E1 ++ []))))
 (rawK 1 0 (.int .u8 0) [] H9 fun a19 H19 E19 =>
 appK 1 1 a19 x0 H19 fun a20 H20 E20 =>
 rawK 1 1 .nils [(0, a20)] H20 fun a21 H21 E21 =>
 callK (EV C) true n_wal_Wal_Write_r [a10, a21] H21 fun a22 H22 E22 =>
 (cvL a20 H22).bind fun a23 =>
 (cvL x0 H22).bind fun a24 =>
 (binA .eql Go.TypeDesc.string (cmpT Try.prog) false a23 a24).bind fun a25 =>
 law16_WalStays_J12 n x0 x1 a1 a7 a20 a22 a25 (.int .i64 0) H22 (E22 ++ (E21 ++ (E20 ++ (E19 ++ (E9 ++ (E6 ++ (E1 ++ [])))))))))))))))) (List.length H) = some r) : EV C n_law16_WalStays [x0, x1] H = some r :=
 EV_of_fnK' (fn := Try.f7) (by kernel_rfl) (by kernel_rfl) (by kernel_rfl) hh
end Go.Pm
