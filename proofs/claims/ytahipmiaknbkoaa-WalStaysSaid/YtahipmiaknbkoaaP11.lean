/- A part of the proof: what the functions of the program answer, as plain lists and numbers. -/
import Derived.Test.YtahipmiaknbkoaaP9
namespace Go.Pm
open Go.Proofs
set_option linter.unusedVariables false
set_option maxRecDepth 100000
theorem disk_New_of {r : R3} {x0 : AV} {H : List AObj} (hh : (fun n => (
 (binA .lss (Go.TypeDesc.int Go.IntKind.i64) (cmpT Try.prog) true x0 (.int .i64 0)).bind fun a1 =>
 splitK a1
 (endB true true n (.tup [.nilp, (.ifc t_api_Code (.int .i64 1))]) H [])
 ((binA .gtr (Go.TypeDesc.int Go.IntKind.i64) (cmpT Try.prog) true x0 (.int .i64 67108864)).bind fun a2 =>
 condK a2
 (endB true true n (.tup [.nilp, (.ifc t_api_Code (.int .i64 1))]) H [])
 (mpK H fun a3 H3 E3 =>
 (fillB (AV.cells (.agg [(.int .i64 0), .nilm, (.bool false), (.int .i64 0), (.bool false), (.int .i64 0)])) [(0, 1, x0), (1, 1, a3)]).bind fun c4 =>
 newK (.agg c4) H3 fun a5 H5 E5 =>
 endB true true n (.tup [a5, .nili]) H5 (E5 ++ (E3 ++ [])))))) (List.length H) = some r) : EV C n_disk_New [x0] H = some r :=
 EV_of_fnK' (fn := Try.f11) (by kernel_rfl) (by kernel_rfl) (by kernel_rfl) hh
theorem disk_Disk_Append_of {r : R3} {x0 x1 x2 : AV} {H : List AObj} (hh : (fun n => (
 (nilA x0).bind fun a1 =>
 (offA a1 1).bind fun a2 =>
 (loadA false 1 a2 H).bind fun a3 =>
 (lookV (some Go.TypeDesc.string) (.agg [.nils, (.int .i64 0)]) true a3 x1 H).bind fun a4 =>
 (extA a4 0).bind fun a5 =>
 (extA a4 1).bind fun a6 =>
 newK (.agg [.nils, (.int .i64 0)]) H fun a7 H7 E7 =>
 stoK 2 a7 a5 H7 fun H8 E8 =>
 (nilA x0).bind fun a9 =>
 (offA a9 2).bind fun a10 =>
 (loadA false 1 a10 H8).bind fun a11 =>
 condK a11
 (endB false false n (.ifc t_api_Code (.int .i64 10)) H8 (E8 ++ (E7 ++ [])))
 (callK (EV C) false n_disk_named [x1] H8 fun a12 H12 E12 =>
 (unA .not a12).bind fun a13 =>
 condK a13
 (endB false false n (.ifc t_api_Code (.int .i64 1)) H12 (E12 ++ (E8 ++ (E7 ++ []))))
 ((lenV x2 H12).bind fun a14 =>
 callK (EV C) false n_disk_Disk_Room [x0] H12 fun a15 H15 E15 =>
 (binA .gtr (Go.TypeDesc.int Go.IntKind.i64) (cmpT Try.prog) false a14 a15).bind fun a16 =>
 splitK a16
 (endB false false n (.ifc t_api_Code (.int .i64 11)) H15 (E15 ++ (E12 ++ (E8 ++ (E7 ++ [])))))
 ((unA .not a6).bind fun a17 =>
 splitK a17
 ((nilA x0).bind fun a18 =>
 (offA a18 1).bind fun a19 =>
 (loadA false 1 a19 H15).bind fun a20 =>
 (lenW a20 H15).bind fun a21 =>
 (binA .geq (Go.TypeDesc.int Go.IntKind.i64) (cmpT Try.prog) true a21 (.int .i64 8)).bind fun a22 =>
 condK a22
 (endB false false n (.ifc t_api_Code (.int .i64 11)) H15 (E15 ++ (E12 ++ (E8 ++ (E7 ++ [])))))
 ((offA a7 0).bind fun a23 =>
 (loadA false 1 a23 H15).bind fun a24 =>
 litK 1 2 .nils [(0, a24), (1, x2)] H15 fun a25 H25 E25 =>
 callK (EV C) false n_Concat_byte [a25] H25 fun a26 H26 E26 =>
 (offA a7 0).bind fun a27 =>
 stoK 1 a27 a26 H26 fun H28 E28 =>
 (nilA x0).bind fun a29 =>
 (offA a29 1).bind fun a30 =>
 (loadA false 1 a30 H28).bind fun a31 =>
 (loadA true 2 a7 H28).bind fun a32 =>
 updK (some Go.TypeDesc.string) a31 x1 a32 H28 fun H33 =>
 callK (EV C) false n_disk_Disk_step [x0] H33 fun a34 H34 E34 =>
 (unA .not a34).bind fun a35 =>
 condK a35
 (endB false false n (.ifc t_api_Code (.int .i64 10)) H34 (E34 ++ (E28 ++ (E26 ++ (E25 ++ (E15 ++ (E12 ++ (E8 ++ (E7 ++ [])))))))))
 (endB false false n .nili H34 (E34 ++ (E28 ++ (E26 ++ (E25 ++ (E15 ++ (E12 ++ (E8 ++ (E7 ++ [])))))))))))
 ((offA a7 0).bind fun a36 =>
 (loadA false 1 a36 H15).bind fun a37 =>
 litK 1 2 .nils [(0, a37), (1, x2)] H15 fun a38 H38 E38 =>
 callK (EV C) false n_Concat_byte [a38] H38 fun a39 H39 E39 =>
 (offA a7 0).bind fun a40 =>
 stoK 1 a40 a39 H39 fun H41 E41 =>
 (nilA x0).bind fun a42 =>
 (offA a42 1).bind fun a43 =>
 (loadA false 1 a43 H41).bind fun a44 =>
 (loadA true 2 a7 H41).bind fun a45 =>
 updK (some Go.TypeDesc.string) a44 x1 a45 H41 fun H46 =>
 callK (EV C) false n_disk_Disk_step [x0] H46 fun a47 H47 E47 =>
 (unA .not a47).bind fun a48 =>
 condK a48
 (endB false false n (.ifc t_api_Code (.int .i64 10)) H47 (E47 ++ (E41 ++ (E39 ++ (E38 ++ (E15 ++ (E12 ++ (E8 ++ (E7 ++ [])))))))))
 (endB false false n .nili H47 (E47 ++ (E41 ++ (E39 ++ (E38 ++ (E15 ++ (E12 ++ (E8 ++ (E7 ++ []))))))))))))))) (List.length H) = some r) : EV C n_disk_Disk_Append [x0, x1, x2] H = some r :=
 EV_of_fnK' (fn := Try.f12) (by kernel_rfl) (by kernel_rfl) (by kernel_rfl) hh
theorem disk_Disk_Read_of {r : R3} {x0 x1 : AV} {H : List AObj} (hh : (fun n => (
 callK (EV C) false n_disk_Disk_there [x0, x1] H fun a1 H1 E1 =>
 (binA .neq (Go.TypeDesc.interface #[("Error", 123)]) (cmpT Try.prog) true a1 .nili).bind fun a2 =>
 condK a2
 (endB false false n (.tup [.nils, a1]) H1 (E1 ++ []))
 ((nilA x0).bind fun a3 =>
 (offA a3 1).bind fun a4 =>
 (loadA false 1 a4 H1).bind fun a5 =>
 (lookV (some Go.TypeDesc.string) (.agg [.nils, (.int .i64 0)]) false a5 x1 H1).bind fun a6 =>
 (fldA false 1 0 a6).bind fun a7 =>
 callK (EV C) false n_Clone_byte [a7] H1 fun a8 H8 E8 =>
 endB false false n (.tup [a8, .nili]) H8 (E8 ++ (E1 ++ []))))) (List.length H) = some r) : EV C n_disk_Disk_Read [x0, x1] H = some r :=
 EV_of_fnK' (fn := Try.f13) (by kernel_rfl) (by kernel_rfl) (by kernel_rfl) hh
theorem disk_Disk_Sync_of {r : R3} {x0 x1 : AV} {H : List AObj} (hh : (fun n => (
 callK (EV C) false n_disk_Disk_there [x0, x1] H fun a1 H1 E1 =>
 (binA .neq (Go.TypeDesc.interface #[("Error", 123)]) (cmpT Try.prog) true a1 .nili).bind fun a2 =>
 condK a2
 (endB false false n a1 H1 (E1 ++ []))
 (callK (EV C) false n_disk_Disk_step [x0] H1 fun a3 H3 E3 =>
 (unA .not a3).bind fun a4 =>
 condK a4
 (endB false false n (.ifc t_api_Code (.int .i64 10)) H3 (E3 ++ (E1 ++ [])))
 ((nilA x0).bind fun a5 =>
 (offA a5 1).bind fun a6 =>
 (loadA false 1 a6 H3).bind fun a7 =>
 (lookV (some Go.TypeDesc.string) (.agg [.nils, (.int .i64 0)]) false a7 x1 H3).bind fun a8 =>
 newK (.agg [.nils, (.int .i64 0)]) H3 fun a9 H9 E9 =>
 stoK 2 a9 a8 H9 fun H10 E10 =>
 (offA a9 0).bind fun a11 =>
 (loadA false 1 a11 H10).bind fun a12 =>
 (lenV a12 H10).bind fun a13 =>
 (offA a9 1).bind fun a14 =>
 stoK 1 a14 a13 H10 fun H15 E15 =>
 (nilA x0).bind fun a16 =>
 (offA a16 1).bind fun a17 =>
 (loadA false 1 a17 H15).bind fun a18 =>
 (loadA true 2 a9 H15).bind fun a19 =>
 updK (some Go.TypeDesc.string) a18 x1 a19 H15 fun H20 =>
 endB false false n .nili H20 (E15 ++ (E10 ++ (E9 ++ (E3 ++ (E1 ++ []))))))))) (List.length H) = some r) : EV C n_disk_Disk_Sync [x0, x1] H = some r :=
 EV_of_fnK' (fn := Try.f14) (by kernel_rfl) (by kernel_rfl) (by kernel_rfl) hh
theorem disk_Disk_On_of {r : R3} {x0 : AV} {H : List AObj} (hh : (fun n => (
 (nilA x0).bind fun a1 =>
 (offA a1 2).bind fun a2 =>
 (loadA false 1 a2 H).bind fun a3 =>
 (unA .not a3).bind fun a4 =>
 endB false false n a4 H [])) (List.length H) = some r) : EV C n_disk_Disk_On [x0] H = some r :=
 EV_of_fnK' (fn := Try.f16) (by kernel_rfl) (by kernel_rfl) (by kernel_rfl) hh
theorem law16_up_of {r : R3} {H : List AObj} (hh : (fun n => (
 callK (EV C) false n_wal_Frame [.nils] H fun a1 H1 E1 =>
 (extA a1 0).bind fun a2 =>
 (extA a1 1).bind fun a3 =>
 rawK 1 9 (.int .u8 0) [(0, (.int .u8 49)), (1, (.int .u8 50)), (2, (.int .u8 51)), (3, (.int .u8 52)), (4, (.int .u8 53)), (5, (.int .u8 54)), (6, (.int .u8 55)), (7, (.int .u8 56)), (8, (.int .u8 57))] H1 fun a4 H4 E4 =>
 (cvR a4 H4).bind fun a5 =>
 callK (EV C) false n_wal_Sum [a5] H4 fun a6 H6 E6 =>
 (binA .eql (Go.TypeDesc.int Go.IntKind.u32) (cmpT Try.prog) true a6 (.int .u32 3808858755)).bind fun a7 =>
 splitK a7
 ((binA .eql (Go.TypeDesc.interface #[("Error", 123)]) (cmpT Try.prog) true a3 .nili).bind fun a8 =>
 splitK a8
 ((lenV a2 H6).bind fun a9 =>
 (binA .eql (Go.TypeDesc.int Go.IntKind.i64) (cmpT Try.prog) true a9 (.int .i64 8)).bind fun a10 =>
 endB false false n a10 H6 (E6 ++ (E4 ++ (E1 ++ []))))
 (endB false false n (.bool false) H6 (E6 ++ (E4 ++ (E1 ++ [])))))
 (endB false false n (.bool false) H6 (E6 ++ (E4 ++ (E1 ++ [])))))) (List.length H) = some r) : EV C n_law16_up [] H = some r :=
 EV_of_fnK' (fn := Try.f18) (by kernel_rfl) (by kernel_rfl) (by kernel_rfl) hh
end Go.Pm
