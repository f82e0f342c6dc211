/- A part of the proof: what the functions of the program answer, as plain lists and numbers. -/
import Derived.Test.YtahipmiaknbkoaaP9
namespace Go.Pm
open Go.Proofs
set_option linter.unusedVariables false
set_option maxRecDepth 100000
theorem wal_Open_of {r : R3} {x0 : AV} {H : List AObj} (hh : (fun n => (
 (binA .eql (Go.TypeDesc.pointer 57) (cmpT Try.prog) true x0 .nilp).bind fun a1 =>
 condK a1
 (endB true true n (.tup [.nilp, .nils, (.ifc t_api_Code (.int .i64 1))]) H [])
 (callK (EV C) false n_disk_Disk_On [x0] H fun a2 H2 E2 =>
 (unA .not a2).bind fun a3 =>
 condK a3
 (endB true true n (.tup [.nilp, .nils, (.ifc t_api_Code (.int .i64 10))]) H2 (E2 ++ []))
 ((fillB (AV.cells (.agg [.nilp])) [(0, 1, x0)]).bind fun c4 =>
 newK (.agg c4) H2 fun a5 H5 E5 =>
 callK (EV C) false n_wal_Wal_clean [a5] H5 fun a6 H6 E6 =>
 (binA .neq (Go.TypeDesc.interface #[("Error", 123)]) (cmpT Try.prog) true a6 .nili).bind fun a7 =>
 condK a7
 (endB true true n (.tup [.nilp, .nils, a6]) H6 (E6 ++ (E5 ++ (E2 ++ []))))
 (callK (EV C) false n_disk_Disk_Read [x0, (.str { data := #[108, 111, 103] })] H6 fun a8 H8 E8 =>
 (extA a8 0).bind fun a9 =>
 (extA a8 1).bind fun a10 =>
 (binA .neq (Go.TypeDesc.interface #[("Error", 123)]) (cmpT Try.prog) true a10 .nili).bind fun a11 =>
 splitK a11
 (callK (EV C) false n_errors_Is [a10, (.ifc t_api_Code (.int .i64 9))] H8 fun a12 H12 E12 =>
 (unA .not a12).bind fun a13 =>
 condK a13
 (endB true true n (.tup [.nilp, .nils, a10]) H12 (E12 ++ (E8 ++ (E6 ++ (E5 ++ (E2 ++ []))))))
 (callK (EV C) false n_wal_Scan [a9] H12 fun a14 H14 E14 =>
 (extA a14 0).bind fun a15 =>
 (extA a14 1).bind fun a16 =>
 (lenV a9 H14).bind fun a17 =>
 (binA .lss (Go.TypeDesc.int Go.IntKind.i64) (cmpT Try.prog) false a16 a17).bind fun a18 =>
 condK a18
 (callK (EV C) false n_wal_Wal_Replace [a5, a15] H14 fun a19 H19 E19 =>
 (binA .neq (Go.TypeDesc.interface #[("Error", 123)]) (cmpT Try.prog) true a19 .nili).bind fun a20 =>
 condK a20
 (endB true true n (.tup [.nilp, .nils, a19]) H19 (E19 ++ (E14 ++ (E12 ++ (E8 ++ (E6 ++ (E5 ++ (E2 ++ []))))))))
 (endB true true n (.tup [a5, a15, .nili]) H19 (E19 ++ (E14 ++ (E12 ++ (E8 ++ (E6 ++ (E5 ++ (E2 ++ [])))))))))
 (endB true true n (.tup [a5, a15, .nili]) H14 (E14 ++ (E12 ++ (E8 ++ (E6 ++ (E5 ++ (E2 ++ [])))))))))
 (callK (EV C) false n_wal_Scan [a9] H8 fun a21 H21 E21 =>
 (extA a21 0).bind fun a22 =>
 (extA a21 1).bind fun a23 =>
 (lenV a9 H21).bind fun a24 =>
 (binA .lss (Go.TypeDesc.int Go.IntKind.i64) (cmpT Try.prog) false a23 a24).bind fun a25 =>
 condK a25
 (callK (EV C) false n_wal_Wal_Replace [a5, a22] H21 fun a26 H26 E26 =>
 (binA .neq (Go.TypeDesc.interface #[("Error", 123)]) (cmpT Try.prog) true a26 .nili).bind fun a27 =>
 condK a27
 (endB true true n (.tup [.nilp, .nils, a26]) H26 (E26 ++ (E21 ++ (E8 ++ (E6 ++ (E5 ++ (E2 ++ [])))))))
 (endB true true n (.tup [a5, a22, .nili]) H26 (E26 ++ (E21 ++ (E8 ++ (E6 ++ (E5 ++ (E2 ++ []))))))))
 (endB true true n (.tup [a5, a22, .nili]) H21 (E21 ++ (E8 ++ (E6 ++ (E5 ++ (E2 ++ [])))))))))))) (List.length H) = some r) : EV C n_wal_Open [x0] H = some r :=
 EV_of_fnK' (fn := Try.f19) (by kernel_rfl) (by kernel_rfl) (by kernel_rfl) hh
theorem wal_Frame_of {r : R3} {x0 : AV} {H : List AObj} (hh : (fun n => (
 (lenV x0 H).bind fun a1 =>
 (binA .gtr (Go.TypeDesc.int Go.IntKind.i64) (cmpT Try.prog) true a1 (.int .i64 2097152)).bind fun a2 =>
 condK a2
 (endB false false n (.tup [.nils, (.ifc t_api_Code (.int .i64 2))]) H [])
 ((lenV x0 H).bind fun a3 =>
 (cvI .u32 a3).bind fun a4 =>
 callK (EV C) false n_wal_four [a4] H fun a5 H5 E5 =>
 callK (EV C) false n_wal_check [a5, x0] H5 fun a6 H6 E6 =>
 callK (EV C) false n_wal_four [a6] H6 fun a7 H7 E7 =>
 litK 1 3 .nils [(0, a5), (1, a7), (2, x0)] H7 fun a8 H8 E8 =>
 callK (EV C) false n_Concat_byte [a8] H8 fun a9 H9 E9 =>
 endB false false n (.tup [a9, .nili]) H9 (E9 ++ (E8 ++ (E7 ++ (E6 ++ (E5 ++ [])))))))) (List.length H) = some r) : EV C n_wal_Frame [x0] H = some r :=
 EV_of_fnK' (fn := Try.f20) (by kernel_rfl) (by kernel_rfl) (by kernel_rfl) hh
theorem wal_Wal_Replace_of {r : R3} {x0 x1 : AV} {H : List AObj} (hh : (fun n => (
 callK (EV C) false n_wal_frames [x1] H fun a1 H1 E1 =>
 (extA a1 0).bind fun a2 =>
 (extA a1 1).bind fun a3 =>
 (binA .neq (Go.TypeDesc.interface #[("Error", 123)]) (cmpT Try.prog) true a3 .nili).bind fun a4 =>
 condK a4
 (endB false false n a3 H1 (E1 ++ []))
 (callK (EV C) false n_wal_Wal_clean [x0] H1 fun a5 H5 E5 =>
 (binA .neq (Go.TypeDesc.interface #[("Error", 123)]) (cmpT Try.prog) true a5 .nili).bind fun a6 =>
 condK a6
 (endB false false n a5 H5 (E5 ++ (E1 ++ [])))
 ((nilA x0).bind fun a7 =>
 (offA a7 0).bind fun a8 =>
 (loadA false 1 a8 H5).bind fun a9 =>
 callK (EV C) false n_disk_Disk_Append [a9, (.str { data := #[110, 101, 119] }), a2] H5 fun a10 H10 E10 =>
 (binA .neq (Go.TypeDesc.interface #[("Error", 123)]) (cmpT Try.prog) true a10 .nili).bind fun a11 =>
 condK a11
 (endB false false n a10 H10 (E10 ++ (E5 ++ (E1 ++ []))))
 ((nilA x0).bind fun a12 =>
 (offA a12 0).bind fun a13 =>
 (loadA false 1 a13 H10).bind fun a14 =>
 callK (EV C) false n_disk_Disk_Sync [a14, (.str { data := #[110, 101, 119] })] H10 fun a15 H15 E15 =>
 (binA .neq (Go.TypeDesc.interface #[("Error", 123)]) (cmpT Try.prog) true a15 .nili).bind fun a16 =>
 condK a16
 (endB false false n a15 H15 (E15 ++ (E10 ++ (E5 ++ (E1 ++ [])))))
 ((nilA x0).bind fun a17 =>
 (offA a17 0).bind fun a18 =>
 (loadA false 1 a18 H15).bind fun a19 =>
 callK (EV C) false n_disk_Disk_Rename [a19, (.str { data := #[110, 101, 119] }), (.str { data := #[108, 111, 103] })] H15 fun a20 H20 E20 =>
 endB false false n a20 H20 (E20 ++ (E15 ++ (E10 ++ (E5 ++ (E1 ++ []))))))))))) (List.length H) = some r) : EV C n_wal_Wal_Replace [x0, x1] H = some r :=
 EV_of_fnK' (fn := Try.f22) (by kernel_rfl) (by kernel_rfl) (by kernel_rfl) hh
noncomputable def ref16_Same_J4 (n : Nat) (t0 t1 t5 : AV) (H : List AObj) (E : List Nat) : Option R3 :=
 loopK Try.prog C.G (EV C) (C.hint 26) Try.f26 (cAt (bodyOf Try.f26) [1, 1, 0, 1, 0, 0]) (kAt Try.prog C.G (EV C) (C.hint 26) Try.f26 (bodyOf Try.f26) [1, 1, 0, 1, 0] [] (endK Try.prog (C.hint 26) Try.f26 n))
 ⟨pat 28 [(0, t0), (1, t1), (5, t5)], H, E⟩
theorem ref16_Same_J4_of {r : R3} {n : Nat} {t0 t1 t5 : AV} {H : List AObj} {E : List Nat} (hh : (
 (lenV t0 H).bind fun a1 =>
 (binA .lss (Go.TypeDesc.int Go.IntKind.i64) (cmpT Try.prog) false t5 a1).bind fun a2 =>
 condK a2
 ((ixA 1 t0 t5 H).bind fun a3 =>
 (loadA false 1 a3 H).bind fun a4 =>
 (cvL a4 H).bind fun a5 =>
 (ixA 1 t1 t5 H).bind fun a6 =>
 (loadA false 1 a6 H).bind fun a7 =>
 (cvL a7 H).bind fun a8 =>
 (binA .neq Go.TypeDesc.string (cmpT Try.prog) false a5 a8).bind fun a9 =>
 condK a9
 (endB false false n (.bool false) H E)
 ((binA .add (Go.TypeDesc.int Go.IntKind.i64) (cmpT Try.prog) true t5 (.int .i64 1)).bind fun a10 =>
 ref16_Same_J4 n t0 t1 a10 H E))
 (endB false false n (.bool true) H E)) = some r) : ref16_Same_J4 n t0 t1 t5 H E = some r :=
 loop_step' (by kernel_rfl) hh
theorem ref16_Same_of {r : R3} {x0 x1 : AV} {H : List AObj} (hh : (fun n => (
 (lenV x0 H).bind fun a1 =>
 (lenV x1 H).bind fun a2 =>
 (binA .neq (Go.TypeDesc.int Go.IntKind.i64) (cmpT Try.prog) false a1 a2).bind fun a3 =>
 condK a3
 (endB false false n (.bool false) H [])
 (ref16_Same_J4 n x0 x1 (.int .i64 0) H []))) (List.length H) = some r) : EV C n_ref16_Same [x0, x1] H = some r :=
 EV_of_fnK' (fn := Try.f26) (by kernel_rfl) (by kernel_rfl) (by kernel_rfl) hh
noncomputable def wal_Scan_J3 (n : Nat) (t0 t4 t5 : AV) (H : List AObj) (E : List Nat) : Option R3 :=
 loopK Try.prog C.G (EV C) (C.hint 27) Try.f27 (cAt (bodyOf Try.f27) [1, 1, 1, 0, 0, 0]) (kAt Try.prog C.G (EV C) (C.hint 27) Try.f27 (bodyOf Try.f27) [1, 1, 1, 0, 0] [] (endK Try.prog (C.hint 27) Try.f27 n))
 ⟨pat 63 [(0, t0), (4, t4), (5, t5)], H, E⟩
theorem wal_Scan_J3_of {r : R3} {n : Nat} {t0 t4 t5 : AV} {H : List AObj} {E : List Nat} (hh : (
 (lenV t0 H).bind fun a1 =>
 (binA .sub (Go.TypeDesc.int Go.IntKind.i64) (cmpT Try.prog) false a1 t5).bind fun a2 =>
 (binA .geq (Go.TypeDesc.int Go.IntKind.i64) (cmpT Try.prog) true a2 (.int .i64 8)).bind fun a3 =>
 condK a3
 ((binA .add (Go.TypeDesc.int Go.IntKind.i64) (cmpT Try.prog) true t5 (.int .i64 4)).bind fun a4 =>
 (cutA 1 t0 (some t5) (some a4) none H).bind fun a5 =>
 callK (EV C) false n_wal_number [a5] H fun a6 H6 E6 =>
 (binA .gtr (Go.TypeDesc.int Go.IntKind.u32) (cmpT Try.prog) true a6 (.int .u32 2097152)).bind fun a7 =>
 splitK a7
 (endB false false n (.tup [t4, t5]) H6 ((E6 ++ []) ++ E))
 ((cvI .i64 a6).bind fun a8 =>
 (lenV t0 H6).bind fun a9 =>
 (binA .sub (Go.TypeDesc.int Go.IntKind.i64) (cmpT Try.prog) false a9 t5).bind fun a10 =>
 (binA .sub (Go.TypeDesc.int Go.IntKind.i64) (cmpT Try.prog) true a10 (.int .i64 8)).bind fun a11 =>
 (binA .gtr (Go.TypeDesc.int Go.IntKind.i64) (cmpT Try.prog) false a8 a11).bind fun a12 =>
 condK a12
 (endB false false n (.tup [t4, t5]) H6 ((E6 ++ []) ++ E))
 ((binA .add (Go.TypeDesc.int Go.IntKind.i64) (cmpT Try.prog) true t5 (.int .i64 8)).bind fun a13 =>
 (binA .add (Go.TypeDesc.int Go.IntKind.i64) (cmpT Try.prog) true t5 (.int .i64 8)).bind fun a14 =>
 (cvI .i64 a6).bind fun a15 =>
 (binA .add (Go.TypeDesc.int Go.IntKind.i64) (cmpT Try.prog) false a14 a15).bind fun a16 =>
 (cutA 1 t0 (some a13) (some a16) none H6).bind fun a17 =>
 (callD (EV C) n_wal_check [a5, a17] H6).bind fun a18 =>
 (binA .add (Go.TypeDesc.int Go.IntKind.i64) (cmpT Try.prog) true t5 (.int .i64 4)).bind fun a19 =>
 (cutA 1 t0 (some a19) none none H6).bind fun a20 =>
 (callD (EV C) n_wal_number [a20] H6).bind fun a21 =>
 (binA .neq (Go.TypeDesc.int Go.IntKind.u32) (cmpT Try.prog) false a18 a21).bind fun a22 =>
 condK a22
 (endB false false n (.tup [t4, t5]) H6 ((E6 ++ []) ++ E))
 (callK (EV C) false n_Clone_byte [a17] H6 fun a23 H23 E23 =>
 litK 1 1 .nils [(0, a23)] H23 fun a24 H24 E24 =>
 appK 1 24 t4 a24 H24 fun a25 H25 E25 =>
 (cvI .i64 a6).bind fun a26 =>
 (binA .add (Go.TypeDesc.int Go.IntKind.i64) (cmpT Try.prog) true (.int .i64 8) a26).bind fun a27 =>
 (binA .add (Go.TypeDesc.int Go.IntKind.i64) (cmpT Try.prog) false t5 a27).bind fun a28 =>
 wal_Scan_J3 n t0 a25 a28 H25 ((E25 ++ (E24 ++ (E23 ++ (E6 ++ [])))) ++ E)))))
 (endB false false n (.tup [t4, t5]) H E)) = some r) : wal_Scan_J3 n t0 t4 t5 H E = some r :=
 loop_step' (by kernel_rfl) hh
theorem wal_Scan_of {r : R3} {x0 : AV} {H : List AObj} (hh : (fun n => (
 wal_Scan_J3 n x0 (.slc (List.length H) 0 0 0) (.int .i64 0) (H ++ [.vrow]) [])) (List.length H) = some r) : EV C n_wal_Scan [x0] H = some r :=
 EV_of_fnK' (fn := Try.f27) (by kernel_rfl) (by kernel_rfl) (by kernel_rfl) hh
end Go.Pm
