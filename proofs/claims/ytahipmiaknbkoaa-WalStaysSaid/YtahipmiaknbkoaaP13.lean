/- A part of the proof: what the functions of the program answer, as plain lists and numbers. -/
import Derived.Test.YtahipmiaknbkoaaP9
namespace Go.Pm
open Go.Proofs
set_option linter.unusedVariables false
set_option maxRecDepth 100000
theorem disk_named_of {r : R3} {x0 : AV} {H : List AObj} (hh : (fun n => (
 (lenS x0).bind fun a1 =>
 (binA .geq (Go.TypeDesc.int Go.IntKind.i64) (cmpT Try.prog) true a1 (.int .i64 1)).bind fun a2 =>
 splitK a2
 ((lenS x0).bind fun a3 =>
 (binA .leq (Go.TypeDesc.int Go.IntKind.i64) (cmpT Try.prog) true a3 (.int .i64 16)).bind fun a4 =>
 endB false false n a4 H [])
 (endB false false n (.bool false) H []))) (List.length H) = some r) : EV C n_disk_named [x0] H = some r :=
 EV_of_fnK' (fn := Try.f28) (by kernel_rfl) (by kernel_rfl) (by kernel_rfl) hh
noncomputable def Concat_byte_J3 (n : Nat) (t0 t3 t9 t10 t11 : AV) (H : List AObj) (E : List Nat) : Option R3 :=
 loopK Try.prog C.G (EV C) (C.hint 29) Try.f29 (cAt (bodyOf Try.f29) [1, 1, 0, 1, 0, 0]) (kAt Try.prog C.G (EV C) (C.hint 29) Try.f29 (bodyOf Try.f29) [1, 1, 0, 1, 0] [] (endK Try.prog (C.hint 29) Try.f29 n))
 ⟨pat 36 [(0, t0), (3, t3), (9, t9), (10, t10), (11, t11)], H, E⟩
noncomputable def Concat_byte_J11 (n : Nat) (t6 t25 t26 t27 : AV) (H : List AObj) (E : List Nat) : Option R3 :=
 loopK Try.prog C.G (EV C) (C.hint 29) Try.f29 (cAt (bodyOf Try.f29) [1, 1, 1, 1, 0, 1, 0, 0]) (kAt Try.prog C.G (EV C) (C.hint 29) Try.f29 (bodyOf Try.f29) [1, 1, 1, 1, 0, 1, 0] [] (endK Try.prog (C.hint 29) Try.f29 n))
 ⟨pat 36 [(6, t6), (25, t25), (26, t26), (27, t27)], H, E⟩
theorem Concat_byte_J3_of {r : R3} {n : Nat} {t0 t3 t9 t10 t11 : AV} {H : List AObj} {E : List Nat} (hh : (
 (binA .lss (Go.TypeDesc.int Go.IntKind.i64) (cmpT Try.prog) false t11 t10).bind fun a1 =>
 condK a1
 ((ixA 1 t9 t11 H).bind fun a2 =>
 (loadA false 1 a2 H).bind fun a3 =>
 (lenV a3 H).bind fun a4 =>
 (binA .add (Go.TypeDesc.int Go.IntKind.i64) (cmpT Try.prog) false t3 a4).bind fun a5 =>
 (binA .lss (Go.TypeDesc.int Go.IntKind.i64) (cmpT Try.prog) true a5 (.int .i64 0)).bind fun a6 =>
 condK a6
 (none)
 ((binA .add (Go.TypeDesc.int Go.IntKind.i64) (cmpT Try.prog) true t11 (.int .i64 1)).bind fun a7 =>
 Concat_byte_J3 n t0 a5 t9 t10 a7 H E))
 (callK (EV C) true n_Grow_byte [.nils, t3] H fun a8 H8 E8 =>
 (lenV t0 H8).bind fun a9 =>
 Concat_byte_J11 n a8 t0 a9 (.int .i64 0) H8 (E8 ++ E))) = some r) : Concat_byte_J3 n t0 t3 t9 t10 t11 H E = some r :=
 loop_step' (by kernel_rfl) hh
theorem Concat_byte_J11_of {r : R3} {n : Nat} {t6 t25 t26 t27 : AV} {H : List AObj} {E : List Nat} (hh : (
 (binA .lss (Go.TypeDesc.int Go.IntKind.i64) (cmpT Try.prog) false t27 t26).bind fun a1 =>
 condK a1
 ((ixA 1 t25 t27 H).bind fun a2 =>
 (loadA false 1 a2 H).bind fun a3 =>
 appK 1 1 t6 a3 H fun a4 H4 E4 =>
 (binA .add (Go.TypeDesc.int Go.IntKind.i64) (cmpT Try.prog) true t27 (.int .i64 1)).bind fun a5 =>
 Concat_byte_J11 n a4 t25 t26 a5 H4 ((E4 ++ []) ++ E))
 (endB false false n t6 H E)) = some r) : Concat_byte_J11 n t6 t25 t26 t27 H E = some r :=
 loop_step' (by kernel_rfl) hh
theorem Concat_byte_of {r : R3} {x0 : AV} {H : List AObj} (hh : (fun n => (
 (lenV x0 H).bind fun a1 =>
 Concat_byte_J3 n x0 (.int .i64 0) x0 a1 (.int .i64 0) H [])) (List.length H) = some r) : EV C n_Concat_byte [x0] H = some r :=
 EV_of_fnK' (fn := Try.f29) (by kernel_rfl) (by kernel_rfl) (by kernel_rfl) hh
theorem disk_Disk_step_of {r : R3} {x0 : AV} {H : List AObj} (hh : (fun n => (
 (nilA x0).bind fun a1 =>
 (offA a1 3).bind fun a2 =>
 (loadA false 1 a2 H).bind fun a3 =>
 (binA .add (Go.TypeDesc.int Go.IntKind.i64) (cmpT Try.prog) true a3 (.int .i64 1)).bind fun a4 =>
 (nilA x0).bind fun a5 =>
 (offA a5 3).bind fun a6 =>
 stoK 1 a6 a4 H fun H7 E7 =>
 (nilA x0).bind fun a8 =>
 (offA a8 4).bind fun a9 =>
 (loadA false 1 a9 H7).bind fun a10 =>
 (unA .not a10).bind fun a11 =>
 condK a11
 (endB false false n (.bool true) H7 (E7 ++ []))
 ((nilA x0).bind fun a12 =>
 (offA a12 5).bind fun a13 =>
 (loadA false 1 a13 H7).bind fun a14 =>
 (binA .eql (Go.TypeDesc.int Go.IntKind.i64) (cmpT Try.prog) true a14 (.int .i64 0)).bind fun a15 =>
 condK a15
 ((nilA x0).bind fun a16 =>
 (offA a16 2).bind fun a17 =>
 stoK 1 a17 (.bool true) H7 fun H18 E18 =>
 endB false false n (.bool false) H18 (E18 ++ (E7 ++ [])))
 ((nilA x0).bind fun a19 =>
 (offA a19 5).bind fun a20 =>
 (loadA false 1 a20 H7).bind fun a21 =>
 (binA .sub (Go.TypeDesc.int Go.IntKind.i64) (cmpT Try.prog) true a21 (.int .i64 1)).bind fun a22 =>
 (nilA x0).bind fun a23 =>
 (offA a23 5).bind fun a24 =>
 stoK 1 a24 a22 H7 fun H25 E25 =>
 endB false false n (.bool true) H25 (E25 ++ (E7 ++ [])))))) (List.length H) = some r) : EV C n_disk_Disk_step [x0] H = some r :=
 EV_of_fnK' (fn := Try.f30) (by kernel_rfl) (by kernel_rfl) (by kernel_rfl) hh
theorem disk_Disk_there_of {r : R3} {x0 x1 : AV} {H : List AObj} (hh : (fun n => (
 (nilA x0).bind fun a1 =>
 (offA a1 2).bind fun a2 =>
 (loadA false 1 a2 H).bind fun a3 =>
 condK a3
 (endB false false n (.ifc t_api_Code (.int .i64 10)) H [])
 ((nilA x0).bind fun a4 =>
 (offA a4 1).bind fun a5 =>
 (loadA false 1 a5 H).bind fun a6 =>
 (lookV (some Go.TypeDesc.string) (.agg [.nils, (.int .i64 0)]) true a6 x1 H).bind fun a7 =>
 (extA a7 0).bind fun a8 =>
 (extA a7 1).bind fun a9 =>
 newK (.agg [.nils, (.int .i64 0)]) H fun a10 H10 E10 =>
 stoK 2 a10 a8 H10 fun H11 E11 =>
 (unA .not a9).bind fun a12 =>
 condK a12
 (endB false false n (.ifc t_api_Code (.int .i64 9)) H11 (E11 ++ (E10 ++ [])))
 (endB false false n .nili H11 (E11 ++ (E10 ++ [])))))) (List.length H) = some r) : EV C n_disk_Disk_there [x0, x1] H = some r :=
 EV_of_fnK' (fn := Try.f31) (by kernel_rfl) (by kernel_rfl) (by kernel_rfl) hh
theorem Clone_byte_of {r : R3} {x0 : AV} {H : List AObj} (hh : (fun n => (
 (binA .eql (Go.TypeDesc.slice 5) (cmpT Try.prog) true x0 .nils).bind fun a1 =>
 condK a1
 (endB false false n .nils H [])
 ((appD 1 1 (AV.emp none) x0 H).bind fun a2 =>
 endB false false n a2 H []))) (List.length H) = some r) : EV C0 n_Clone_byte [x0] H = some r :=
 EV_of_fnK' (fn := Try.f32) (by kernel_rfl) (by kernel_rfl) (by kernel_rfl) hh
theorem disk_Disk_Names_of {r : R3} {x0 : AV} {H : List AObj} (hh : (fun n => (
 (nilA x0).bind fun a1 =>
 (offA a1 1).bind fun a2 =>
 (loadA false 1 a2 H).bind fun a3 =>
 callK (EV C) true n_maps_Keys_disk_file [a3] H fun a4 H4 E4 =>
 callK (EV C) false n_Sorted_string [a4] H4 fun a5 H5 E5 =>
 endB false false n a5 H5 (E5 ++ (E4 ++ [])))) (List.length H) = some r) : EV C n_disk_Disk_Names [x0] H = some r :=
 EV_of_fnK' (fn := Try.f33) (by kernel_rfl) (by kernel_rfl) (by kernel_rfl) hh
noncomputable def wal_Sum_J3 (n : Nat) (t3 t7 t8 t9 : AV) (H : List AObj) (E : List Nat) : Option R3 :=
 loopK Try.prog C.G (EV C) (C.hint 34) Try.f34 (cAt (bodyOf Try.f34) [1, 1, 0, 1, 0, 0]) (kAt Try.prog C.G (EV C) (C.hint 34) Try.f34 (bodyOf Try.f34) [1, 1, 0, 1, 0] [] (endK Try.prog (C.hint 34) Try.f34 n))
 ⟨pat 31 [(3, t3), (7, t7), (8, t8), (9, t9)], H, E⟩
noncomputable def wal_Sum_J7 (n : Nat) (Ha : List AObj) (Ea : List Nat) (t3 t7 t8 t9 t17 : AV) (H : List AObj) (E : List Nat) : Option R3 :=
 loopK Try.prog C.G (EV C) (C.hint 34) Try.f34 (cAt (bodyOf Try.f34) [1, 1, 0, 1, 0, 0, 1, 1, 0, 0, 1, 1, 1, 0, 0]) (kAt Try.prog C.G (EV C) (C.hint 34) Try.f34 (bodyOf Try.f34) [1, 1, 0, 1, 0, 0, 1, 1, 0, 0, 1, 1, 1, 0] [(Ha, Ea)] (endK Try.prog (C.hint 34) Try.f34 n))
 ⟨pat 31 [(3, t3), (7, t7), (8, t8), (9, t9), (17, t17)], H, E⟩
theorem wal_Sum_J3_of {r : R3} {n : Nat} {t3 t7 t8 t9 : AV} {H : List AObj} {E : List Nat} (hh : (
 (binA .lss (Go.TypeDesc.int Go.IntKind.i64) (cmpT Try.prog) false t9 t8).bind fun a1 =>
 condK a1
 ((ixA 1 t7 t9 H).bind fun a2 =>
 (loadA false 1 a2 H).bind fun a3 =>
 (cvI .u32 a3).bind fun a4 =>
 (binA .xor (Go.TypeDesc.int Go.IntKind.u32) (cmpT Try.prog) false t3 a4).bind fun a5 =>
 wal_Sum_J7 n H E a5 t7 t8 t9 (.int .i64 0) H [])
 ((unA .xor t3).bind fun a6 =>
 endB false false n a6 H E)) = some r) : wal_Sum_J3 n t3 t7 t8 t9 H E = some r :=
 loop_step' (by kernel_rfl) hh
theorem wal_Sum_J7_of {r : R3} {n : Nat} {Ha : List AObj} {Ea : List Nat} {t3 t7 t8 t9 t17 : AV} {H : List AObj} {E : List Nat} (hh : (
 (binA .lss (Go.TypeDesc.int Go.IntKind.i64) (cmpT Try.prog) true t17 (.int .i64 8)).bind fun a1 =>
 condK a1
 ((binA .and (Go.TypeDesc.int Go.IntKind.u32) (cmpT Try.prog) true t3 (.int .u32 1)).bind fun a2 =>
 (binA .shr (Go.TypeDesc.int Go.IntKind.u32) (cmpT Try.prog) true t3 (.int .u64 1)).bind fun a3 =>
 (binA .eql (Go.TypeDesc.int Go.IntKind.u32) (cmpT Try.prog) true a2 (.int .u32 1)).bind fun a4 =>
 condK a4
 ((binA .xor (Go.TypeDesc.int Go.IntKind.u32) (cmpT Try.prog) true a3 (.int .u32 2197175160)).bind fun a5 =>
 (binA .add (Go.TypeDesc.int Go.IntKind.i64) (cmpT Try.prog) true t17 (.int .i64 1)).bind fun a6 =>
 wal_Sum_J7 n Ha Ea a5 t7 t8 t9 a6 H E)
 ((binA .add (Go.TypeDesc.int Go.IntKind.i64) (cmpT Try.prog) true t17 (.int .i64 1)).bind fun a7 =>
 wal_Sum_J7 n Ha Ea a3 t7 t8 t9 a7 H E))
 ((binA .add (Go.TypeDesc.int Go.IntKind.i64) (cmpT Try.prog) true t9 (.int .i64 1)).bind fun a8 =>
 wal_Sum_J3 n t3 t7 t8 a8 H (E ++ Ea))) = some r) : wal_Sum_J7 n Ha Ea t3 t7 t8 t9 t17 H E = some r :=
 loop_step' (by kernel_rfl) hh
theorem wal_Sum_of {r : R3} {x0 : AV} {H : List AObj} (hh : (fun n => (
 (lenV x0 H).bind fun a1 =>
 wal_Sum_J3 n (.int .u32 4294967295) x0 a1 (.int .i64 0) H [])) (List.length H) = some r) : EV C n_wal_Sum [x0] H = some r :=
 EV_of_fnK' (fn := Try.f34) (by kernel_rfl) (by kernel_rfl) (by kernel_rfl) hh
theorem wal_Wal_clean_of {r : R3} {x0 : AV} {H : List AObj} (hh : (fun n => (
 (nilA x0).bind fun a1 =>
 (offA a1 0).bind fun a2 =>
 (loadA false 1 a2 H).bind fun a3 =>
 callK (EV C) false n_disk_Disk_Names [a3] H fun a4 H4 E4 =>
 callK (EV C) false n_Contains_string [a4, (.str { data := #[110, 101, 119] })] H4 fun a5 H5 E5 =>
 (unA .not a5).bind fun a6 =>
 condK a6
 (endB false false n .nili H5 (E5 ++ (E4 ++ [])))
 ((nilA x0).bind fun a7 =>
 (offA a7 0).bind fun a8 =>
 (loadA false 1 a8 H5).bind fun a9 =>
 callK (EV C) false n_disk_Disk_Remove [a9, (.str { data := #[110, 101, 119] })] H5 fun a10 H10 E10 =>
 endB false false n a10 H10 (E10 ++ (E5 ++ (E4 ++ [])))))) (List.length H) = some r) : EV C n_wal_Wal_clean [x0] H = some r :=
 EV_of_fnK' (fn := Try.f35) (by kernel_rfl) (by kernel_rfl) (by kernel_rfl) hh
end Go.Pm
