/- A part of the proof: what the functions of the program answer, as plain lists and numbers. -/
import Derived.Test.YtahipmiaknbkoaaP9
namespace Go.Pm
open Go.Proofs
set_option linter.unusedVariables false
set_option maxRecDepth 100000
theorem wal_four_of {r : R3} {x0 : AV} {H : List AObj} (hh : (fun n => (
 (binA .shr (Go.TypeDesc.int Go.IntKind.u32) (cmpT Try.prog) true x0 (.int .u64 24)).bind fun a1 =>
 (cvI .u8 a1).bind fun a2 =>
 (binA .shr (Go.TypeDesc.int Go.IntKind.u32) (cmpT Try.prog) true x0 (.int .u64 16)).bind fun a3 =>
 (cvI .u8 a3).bind fun a4 =>
 (binA .shr (Go.TypeDesc.int Go.IntKind.u32) (cmpT Try.prog) true x0 (.int .u64 8)).bind fun a5 =>
 (cvI .u8 a5).bind fun a6 =>
 (cvI .u8 x0).bind fun a7 =>
 litK 1 4 (.int .u8 0) [(0, a2), (1, a4), (2, a6), (3, a7)] H fun a8 H8 E8 =>
 endB false false n a8 H8 (E8 ++ []))) (List.length H) = some r) : EV C n_wal_four [x0] H = some r :=
 EV_of_fnK' (fn := Try.f37) (by kernel_rfl) (by kernel_rfl) (by kernel_rfl) hh
theorem wal_check_of {r : R3} {x0 x1 : AV} {H : List AObj} (hh : (fun n => (
 litK 1 2 .nils [(0, x0), (1, x1)] H fun a1 H1 E1 =>
 callK (EV C) false n_Concat_byte [a1] H1 fun a2 H2 E2 =>
 callK (EV C) false n_wal_Sum [a2] H2 fun a3 H3 E3 =>
 endB false false n a3 H3 (E3 ++ (E2 ++ (E1 ++ []))))) (List.length H) = some r) : EV C n_wal_check [x0, x1] H = some r :=
 EV_of_fnK' (fn := Try.f38) (by kernel_rfl) (by kernel_rfl) (by kernel_rfl) hh
noncomputable def wal_frames_J3 (n : Nat) (t4 t9 t10 t11 : AV) (H : List AObj) (E : List Nat) : Option R3 :=
 loopK Try.prog C.G (EV C) (C.hint 39) Try.f39 (cAt (bodyOf Try.f39) [1, 1, 0, 1, 0, 0]) (kAt Try.prog C.G (EV C) (C.hint 39) Try.f39 (bodyOf Try.f39) [1, 1, 0, 1, 0] [] (endK Try.prog (C.hint 39) Try.f39 n))
 ⟨pat 28 [(4, t4), (9, t9), (10, t10), (11, t11)], H, E⟩
theorem wal_frames_J3_of {r : R3} {n : Nat} {t4 t9 t10 t11 : AV} {H : List AObj} {E : List Nat} (hh : (
 (binA .lss (Go.TypeDesc.int Go.IntKind.i64) (cmpT Try.prog) false t11 t10).bind fun a1 =>
 condK a1
 ((ixA 1 t9 t11 H).bind fun a2 =>
 (loadA false 1 a2 H).bind fun a3 =>
 callK (EV C) false n_wal_Frame [a3] H fun a4 H4 E4 =>
 (extA a4 0).bind fun a5 =>
 (extA a4 1).bind fun a6 =>
 (binA .neq (Go.TypeDesc.interface #[("Error", 123)]) (cmpT Try.prog) true a6 .nili).bind fun a7 =>
 condK a7
 (endB false false n (.tup [.nils, a6]) H4 ((E4 ++ []) ++ E))
 (appK 1 1 t4 a5 H4 fun a8 H8 E8 =>
 (binA .add (Go.TypeDesc.int Go.IntKind.i64) (cmpT Try.prog) true t11 (.int .i64 1)).bind fun a9 =>
 wal_frames_J3 n a8 t9 t10 a9 H8 ((E8 ++ (E4 ++ [])) ++ E)))
 (endB false false n (.tup [t4, .nili]) H E)) = some r) : wal_frames_J3 n t4 t9 t10 t11 H E = some r :=
 loop_step' (by kernel_rfl) hh
theorem wal_frames_of {r : R3} {x0 : AV} {H : List AObj} (hh : (fun n => (
 (lenV x0 (H ++ [.vrow])).bind fun a1 =>
 wal_frames_J3 n (.slc (List.length H) 0 0 0) x0 a1 (.int .i64 0) (H ++ [.vrow]) [])) (List.length H) = some r) : EV C n_wal_frames [x0] H = some r :=
 EV_of_fnK' (fn := Try.f39) (by kernel_rfl) (by kernel_rfl) (by kernel_rfl) hh
theorem disk_Disk_Rename_of {r : R3} {x0 x1 x2 : AV} {H : List AObj} (hh : (fun n => (
 (nilA x0).bind fun a1 =>
 (offA a1 2).bind fun a2 =>
 (loadA false 1 a2 H).bind fun a3 =>
 (unA .not a3).bind fun a4 =>
 splitK a4
 (callK (EV C) false n_disk_named [x2] H fun a5 H5 E5 =>
 (unA .not a5).bind fun a6 =>
 condK a6
 (endB false false n (.ifc t_api_Code (.int .i64 1)) H5 (E5 ++ []))
 (callK (EV C) false n_disk_Disk_there [x0, x1] H5 fun a7 H7 E7 =>
 (binA .neq (Go.TypeDesc.interface #[("Error", 123)]) (cmpT Try.prog) true a7 .nili).bind fun a8 =>
 condK a8
 (endB false false n a7 H7 (E7 ++ (E5 ++ [])))
 (callK (EV C) false n_disk_Disk_step [x0] H7 fun a9 H9 E9 =>
 (unA .not a9).bind fun a10 =>
 condK a10
 (endB false false n (.ifc t_api_Code (.int .i64 10)) H9 (E9 ++ (E7 ++ (E5 ++ []))))
 ((nilA x0).bind fun a11 =>
 (offA a11 1).bind fun a12 =>
 (loadA false 1 a12 H9).bind fun a13 =>
 (lookV (some Go.TypeDesc.string) (.agg [.nils, (.int .i64 0)]) false a13 x1 H9).bind fun a14 =>
 newK (.agg [.nils, (.int .i64 0)]) H9 fun a15 H15 E15 =>
 stoK 2 a15 a14 H15 fun H16 E16 =>
 (nilA x0).bind fun a17 =>
 (offA a17 1).bind fun a18 =>
 (loadA false 1 a18 H16).bind fun a19 =>
 delK (some Go.TypeDesc.string) a19 x1 H16 fun H20 =>
 (nilA x0).bind fun a21 =>
 (offA a21 1).bind fun a22 =>
 (loadA false 1 a22 H20).bind fun a23 =>
 (loadA true 2 a15 H20).bind fun a24 =>
 updK (some Go.TypeDesc.string) a23 x2 a24 H20 fun H25 =>
 endB false false n .nili H25 (E16 ++ (E15 ++ (E9 ++ (E7 ++ (E5 ++ [])))))))))
 (callK (EV C) false n_disk_Disk_there [x0, x1] H fun a26 H26 E26 =>
 (binA .neq (Go.TypeDesc.interface #[("Error", 123)]) (cmpT Try.prog) true a26 .nili).bind fun a27 =>
 condK a27
 (endB false false n a26 H26 (E26 ++ []))
 (callK (EV C) false n_disk_Disk_step [x0] H26 fun a28 H28 E28 =>
 (unA .not a28).bind fun a29 =>
 condK a29
 (endB false false n (.ifc t_api_Code (.int .i64 10)) H28 (E28 ++ (E26 ++ [])))
 ((nilA x0).bind fun a30 =>
 (offA a30 1).bind fun a31 =>
 (loadA false 1 a31 H28).bind fun a32 =>
 (lookV (some Go.TypeDesc.string) (.agg [.nils, (.int .i64 0)]) false a32 x1 H28).bind fun a33 =>
 newK (.agg [.nils, (.int .i64 0)]) H28 fun a34 H34 E34 =>
 stoK 2 a34 a33 H34 fun H35 E35 =>
 (nilA x0).bind fun a36 =>
 (offA a36 1).bind fun a37 =>
 (loadA false 1 a37 H35).bind fun a38 =>
 delK (some Go.TypeDesc.string) a38 x1 H35 fun H39 =>
 (nilA x0).bind fun a40 =>
 (offA a40 1).bind fun a41 =>
 (loadA false 1 a41 H39).bind fun a42 =>
 (loadA true 2 a34 H39).bind fun a43 =>
 updK (some Go.TypeDesc.string) a42 x2 a43 H39 fun H44 =>
 endB false false n .nili H44 (E35 ++ (E34 ++ (E28 ++ (E26 ++ []))))))))) (List.length H) = some r) : EV C n_disk_Disk_Rename [x0, x1, x2] H = some r :=
 EV_of_fnK' (fn := Try.f40) (by kernel_rfl) (by kernel_rfl) (by kernel_rfl) hh
theorem wal_number_of {r : R3} {x0 : AV} {H : List AObj} (hh : (fun n => (
 (ixA 1 x0 (.int .i64 0) H).bind fun a1 =>
 (loadA false 1 a1 H).bind fun a2 =>
 (cvI .u32 a2).bind fun a3 =>
 (binA .shl (Go.TypeDesc.int Go.IntKind.u32) (cmpT Try.prog) true a3 (.int .u64 24)).bind fun a4 =>
 (ixA 1 x0 (.int .i64 1) H).bind fun a5 =>
 (loadA false 1 a5 H).bind fun a6 =>
 (cvI .u32 a6).bind fun a7 =>
 (binA .shl (Go.TypeDesc.int Go.IntKind.u32) (cmpT Try.prog) true a7 (.int .u64 16)).bind fun a8 =>
 (binA .or (Go.TypeDesc.int Go.IntKind.u32) (cmpT Try.prog) false a4 a8).bind fun a9 =>
 (ixA 1 x0 (.int .i64 2) H).bind fun a10 =>
 (loadA false 1 a10 H).bind fun a11 =>
 (cvI .u32 a11).bind fun a12 =>
 (binA .shl (Go.TypeDesc.int Go.IntKind.u32) (cmpT Try.prog) true a12 (.int .u64 8)).bind fun a13 =>
 (binA .or (Go.TypeDesc.int Go.IntKind.u32) (cmpT Try.prog) false a9 a13).bind fun a14 =>
 (ixA 1 x0 (.int .i64 3) H).bind fun a15 =>
 (loadA false 1 a15 H).bind fun a16 =>
 (cvI .u32 a16).bind fun a17 =>
 (binA .or (Go.TypeDesc.int Go.IntKind.u32) (cmpT Try.prog) false a14 a17).bind fun a18 =>
 endB false false n a18 H [])) (List.length H) = some r) : EV C n_wal_number [x0] H = some r :=
 EV_of_fnK' (fn := Try.f41) (by kernel_rfl) (by kernel_rfl) (by kernel_rfl) hh
theorem Grow_byte_of {r : R3} {x0 x1 : AV} {H : List AObj} (hh : (fun n => (
 (binA .lss (Go.TypeDesc.int Go.IntKind.i64) (cmpT Try.prog) true x1 (.int .i64 0)).bind fun a1 =>
 condK a1
 (none)
 ((capA x0).bind fun a2 =>
 (lenV x0 H).bind fun a3 =>
 (binA .sub (Go.TypeDesc.int Go.IntKind.i64) (cmpT Try.prog) false a2 a3).bind fun a4 =>
 (binA .sub (Go.TypeDesc.int Go.IntKind.i64) (cmpT Try.prog) false x1 a4).bind fun a5 =>
 (binA .gtr (Go.TypeDesc.int Go.IntKind.i64) (cmpT Try.prog) true a5 (.int .i64 0)).bind fun a6 =>
 condK a6
 ((capA x0).bind fun a7 =>
 (cutA 1 x0 none (some a7) none H).bind fun a8 =>
 zapK 1 1 (.int .u8 0) a8 a5 H fun a9 H9 E9 =>
 (lenV x0 H9).bind fun a10 =>
 (cutA 1 a9 none (some a10) none H9).bind fun a11 =>
 trmK a11 H9 [] fun a12 H12 E12 =>
 endB true true n a12 H12 (E12 ++ (E9 ++ [])))
 (endB true true n x0 H [])))) (List.length H) = some r) : EV C n_Grow_byte [x0, x1] H = some r :=
 EV_of_fnK' (fn := Try.f42) (by kernel_rfl) (by kernel_rfl) (by kernel_rfl) hh
theorem maps_Keys_disk_file_of {r : R3} {x0 : AV} {H : List AObj} (hh : (fun n => (
 newK x0 H fun a1 H1 E1 =>
 endB true true n (.clo n_maps_Keys_map_string_disk_file_string_disk_file_1 [] [a1]) H1 (E1 ++ []))) (List.length H) = some r) : EV C n_maps_Keys_disk_file [x0] H = some r :=
 EV_of_fnK' (fn := Try.f44) (by kernel_rfl) (by kernel_rfl) (by kernel_rfl) hh
theorem Contains_string_of {r : R3} {x0 x1 : AV} {H : List AObj} (hh : (fun n => (
 callK (EV C) false n_Index_string [x0, x1] H fun a1 H1 E1 =>
 (binA .geq (Go.TypeDesc.int Go.IntKind.i64) (cmpT Try.prog) true a1 (.int .i64 0)).bind fun a2 =>
 endB false false n a2 H1 (E1 ++ []))) (List.length H) = some r) : EV C n_Contains_string [x0, x1] H = some r :=
 EV_of_fnK' (fn := Try.f45) (by kernel_rfl) (by kernel_rfl) (by kernel_rfl) hh
end Go.Pm
