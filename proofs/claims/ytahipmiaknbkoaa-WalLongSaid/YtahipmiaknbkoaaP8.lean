/- A part of the proof: what the functions of the program answer, as plain lists and numbers. -/
import Derived.Test.YtahipmiaknbkoaaProg
import Derived.Test.YtahipmiaknbkoaaP7
namespace Go.Pm
open Go.Proofs
set_option linter.unusedVariables false
set_option maxRecDepth 100000
abbrev n_law16_WalLong : FuncId := 5
abbrev n_disk_New : FuncId := 11
abbrev n_disk_Disk_Append : FuncId := 12
abbrev n_disk_Disk_Read : FuncId := 13
abbrev n_disk_Disk_Sync : FuncId := 14
abbrev n_disk_Disk_On : FuncId := 16
abbrev n_law16_up : FuncId := 18
abbrev n_wal_Open : FuncId := 19
abbrev n_wal_Frame : FuncId := 20
abbrev n_wal_Wal_Write : FuncId := 21
abbrev n_wal_Wal_Replace : FuncId := 22
abbrev n_disk_Disk_Room : FuncId := 23
abbrev n_wal_Scan : FuncId := 27
abbrev n_disk_named : FuncId := 28
abbrev n_Concat_byte : FuncId := 29
abbrev n_disk_Disk_step : FuncId := 30
abbrev n_disk_Disk_there : FuncId := 31
abbrev n_Clone_byte : FuncId := 32
abbrev n_disk_Disk_Names : FuncId := 33
abbrev n_wal_Sum : FuncId := 34
abbrev n_wal_Wal_clean : FuncId := 35
abbrev n_errors_Is : FuncId := 36
abbrev n_wal_four : FuncId := 37
abbrev n_wal_check : FuncId := 38
abbrev n_wal_frames : FuncId := 39
abbrev n_disk_Disk_Rename : FuncId := 40
abbrev n_wal_number : FuncId := 41
abbrev n_Grow_byte : FuncId := 42
abbrev n_Sorted_string : FuncId := 43
abbrev n_maps_Keys_disk_file : FuncId := 44
abbrev n_Contains_string : FuncId := 45
abbrev n_disk_Disk_Remove : FuncId := 46
abbrev n_maps_Keys_map_string_disk_file_string_disk_file_1 : FuncId := 51
abbrev n_Index_string : FuncId := 52
abbrev n_Clone_byte_r : FuncId := 1000032
abbrev t_api_Code : TypeId := 44
def hintC : FuncId → Hint
 | 3 => { acts := [(2, 0, 1), (5, 0, 9), (5, 2, 9)], loops := [(9, clr 121 [0, 3, 4, 6, 7, 8, 9]), (15, clr 121 [0, 3, 4, 7, 8, 10, 11, 12, 13])], open_ := [15, 9] }
 | 4 => { acts := [(2, 0, 1), (8, 0, 1)], loops := [(11, clr 157 [1, 3, 9, 10, 12, 13, 14, 15, 16])], open_ := [11] }
 | 5 => { acts := [(4, 1, 3), (5, 0, 1), (8, 1, 1)] }
 | 6 => { acts := [(5, 1, 1), (6, 1, 1), (15, 1, 1), (19, 0, 1)] }
 | 7 => { acts := [(4, 0, 1), (5, 1, 1), (8, 0, 9), (8, 2, 9), (15, 0, 9), (15, 2, 9), (22, 1, 1)], loops := [(12, clr 158 [0, 1, 5, 6, 11, 12, 13, 14]), (18, clr 158 [0, 1, 5, 6, 12, 13, 15, 16, 17, 18])], open_ := [18, 12] }
 | 8 => { acts := [(4, 0, 1), (5, 1, 1), (13, 1, 1), (16, 0, 1)] }
 | 9 => { acts := [(4, 0, 1), (5, 1, 1), (13, 1, 1)] }
 | 10 => { acts := [(1, 0, 1), (4, 1, 1), (6, 1, 1)] }
 | 11 => { keep := true, raw := true }
 | 17 => { loops := [(2, clr 69 [0, 1, 14, 15, 16])] }
 | 18 => { acts := [(2, 0, 1)] }
 | 19 => { keep := true, raw := true }
 | 25 => { loops := [(4, clr 19 [0, 3])], open_ := [4] }
 | 26 => { loops := [(4, clr 28 [0, 1, 5])], open_ := [4] }
 | 27 => { acts := [(1, 0, 2)], loops := [(3, clr 63 [0, 4, 5])], open_ := [3] }
 | 29 => { acts := [(9, 1, 1)], loops := [(3, clr 36 [0, 3, 9, 10, 11]), (11, clr 36 [6, 25, 26, 27])], open_ := [11, 3] }
 | 32 => { acts := [(3, 0, 9), (3, 2, 9)] }
 | 33 => { acts := [(1, 4, 1)] }
 | 34 => { loops := [(3, clr 31 [3, 7, 8, 9]), (7, clr 31 [3, 7, 8, 9, 17])], open_ := [7, 3] }
 | 39 => { acts := [(1, 0, 2)], loops := [(3, clr 28 [4, 9, 10, 11])], open_ := [3] }
 | 42 => { keep := true, raw := true, acts := [(5, 8, 5)] }
 | 44 => { keep := true, raw := true }
 | 52 => { loops := [(2, clr 19 [0, 1, 7, 8])], open_ := [2] }
 | 1000032 => { keep := true, raw := true, acts := [(3, 0, 9)] }
 | _ => {}
/-- without what slices.Clone is taken for -/
noncomputable def C0 : Cfg := { P := Try.prog, G := fun _ => none, I := fun _ => none, hint := hintC }
noncomputable def C : Cfg := { P := Try.prog, G := fun _ => none, I := addI n_disk_Disk_Room roomF (addI n_Sorted_string (sortF 51) (addI n_errors_Is (isF 44) (clonesI C0 [n_Clone_byte, n_Clone_byte_r]))), hint := hintC }
end Go.Pm
namespace Go.Pm
open Go.Proofs
set_option linter.unusedVariables false
set_option maxRecDepth 100000
theorem law16_WalLong_of {r : R3} {x0 : AV} {H : List AObj} (hh : (fun n => (
 callK (EV C) false n_law16_up [] H fun a1 H1 E1 =>
 (binA .lss (Go.TypeDesc.int Go.IntKind.i64) (cmpT Try.prog) true x0 (.int .i64 0)).bind fun a2 =>
 splitK a2
 (mkK 1 1 (.int .u8 0) (.int .i64 0) (.int .i64 0) H1 fun a3 H3 E3 =>
 frzK a3 H3 fun a4 H4 =>
 callK (EV C) true n_disk_New [(.int .i64 16777216)] H4 fun a5 H5 E5 =>
 (extA a5 0).bind fun a6 =>
 (extA a5 1).bind fun a7 =>
 (binA .eql (Go.TypeDesc.pointer 57) (cmpT Try.prog) true a6 .nilp).bind fun a8 =>
 splitK a8
 (endB false false n (.bool false) H5 (E5 ++ (E3 ++ (E1 ++ []))))
 ((binA .neq (Go.TypeDesc.interface #[("Error", 123)]) (cmpT Try.prog) true a7 .nili).bind fun a9 =>
 condK a9
 (endB false false n (.bool false) H5 (E5 ++ (E3 ++ (E1 ++ []))))
 (callK (EV C) true n_wal_Open [a6] H5 fun a10 H10 E10 =>
 (extA a10 0).bind fun a11 =>
 (extA a10 1).bind fun a12 =>
 (extA a10 2).bind fun a13 =>
 (binA .eql (Go.TypeDesc.pointer 69) (cmpT Try.prog) true a11 .nilp).bind fun a14 =>
 splitK a14
 (endB false false n (.bool false) H10 (E10 ++ (E5 ++ (E3 ++ (E1 ++ [])))))
 ((binA .neq (Go.TypeDesc.interface #[("Error", 123)]) (cmpT Try.prog) true a13 .nili).bind fun a15 =>
 splitK a15
 (endB false false n (.bool false) H10 (E10 ++ (E5 ++ (E3 ++ (E1 ++ [])))))
 ((lenV a12 H10).bind fun a16 =>
 (binA .neq (Go.TypeDesc.int Go.IntKind.i64) (cmpT Try.prog) true a16 (.int .i64 0)).bind fun a17 =>
 condK a17
 (endB false false n (.bool false) H10 (E10 ++ (E5 ++ (E3 ++ (E1 ++ [])))))
 (callK (EV C) false n_wal_Frame [a4] H10 fun a18 H18 E18 =>
 (extA a18 0).bind fun a19 =>
 (extA a18 1).bind fun a20 =>
 litK 1 1 .nils [(0, a4)] H18 fun a21 H21 E21 =>
 callK (EV C) false n_wal_Wal_Write [a11, a21] H21 fun a22 H22 E22 =>
 litK 1 1 .nils [(0, a4)] H22 fun a23 H23 E23 =>
 callK (EV C) false n_wal_Wal_Replace [a11, a23] H23 fun a24 H24 E24 =>
 (binA .gtr (Go.TypeDesc.int Go.IntKind.i64) (cmpT Try.prog) true (.int .i64 0) (.int .i64 2097152)).bind fun a25 =>
 condK a25
 (splitK a1
 ((binA .eql (Go.TypeDesc.interface #[("Error", 123)]) (cmpT Try.prog) false a20 (.ifc t_api_Code (.int .i64 2))).bind fun a26 =>
 splitK a26
 ((binA .eql (Go.TypeDesc.interface #[("Error", 123)]) (cmpT Try.prog) false a22 (.ifc t_api_Code (.int .i64 2))).bind fun a27 =>
 splitK a27
 ((binA .eql (Go.TypeDesc.interface #[("Error", 123)]) (cmpT Try.prog) false a24 (.ifc t_api_Code (.int .i64 2))).bind fun a28 =>
 splitK a28
 ((lenV a19 H24).bind fun a29 =>
 (binA .eql (Go.TypeDesc.int Go.IntKind.i64) (cmpT Try.prog) true a29 (.int .i64 0)).bind fun a30 =>
 splitK a30
 (callK (EV C) false n_disk_Disk_Room [a6] H24 fun a31 H31 E31 =>
 (binA .eql (Go.TypeDesc.int Go.IntKind.i64) (cmpT Try.prog) true a31 (.int .i64 16777216)).bind fun a32 =>
 endB false false n a32 H31 (E31 ++ (E24 ++ (E23 ++ (E22 ++ (E21 ++ (E18 ++ (E10 ++ (E5 ++ (E3 ++ (E1 ++ [])))))))))))
 (endB false false n (.bool false) H24 (E24 ++ (E23 ++ (E22 ++ (E21 ++ (E18 ++ (E10 ++ (E5 ++ (E3 ++ (E1 ++ [])))))))))))
 (endB false false n (.bool false) H24 (E24 ++ (E23 ++ (E22 ++ (E21 ++ (E18 ++ (E10 ++ (E5 ++ (E3 ++ (E1 ++ [])))))))))))
 (endB false false n (.bool false) H24 (E24 ++ (E23 ++ (E22 ++ (E21 ++ (E18 ++ (E10 ++ (E5 ++ (E3 ++ (E1 ++ [])))))))))))
 (endB false false n (.bool false) H24 (E24 ++ (E23 ++ (E22 ++ (E21 ++ (E18 ++ (E10 ++ (E5 ++ (E3 ++ (E1 ++ [])))))))))))
 (endB false false n (.bool false) H24 (E24 ++ (E23 ++ (E22 ++ (E21 ++ (E18 ++ (E10 ++ (E5 ++ (E3 ++ (E1 ++ [])))))))))))
 (splitK a1
 ((binA .eql (Go.TypeDesc.interface #[("Error", 123)]) (cmpT Try.prog) true a20 .nili).bind fun a33 =>
 splitK a33
 ((binA .eql (Go.TypeDesc.interface #[("Error", 123)]) (cmpT Try.prog) true a22 .nili).bind fun a34 =>
 splitK a34
 ((binA .eql (Go.TypeDesc.interface #[("Error", 123)]) (cmpT Try.prog) true a24 .nili).bind fun a35 =>
 splitK a35
 ((lenV a19 H24).bind fun a36 =>
 (binA .add (Go.TypeDesc.int Go.IntKind.i64) (cmpT Try.prog) true (.int .i64 0) (.int .i64 8)).bind fun a37 =>
 (binA .eql (Go.TypeDesc.int Go.IntKind.i64) (cmpT Try.prog) false a36 a37).bind fun a38 =>
 splitK a38
 (callK (EV C) false n_disk_Disk_Room [a6] H24 fun a39 H39 E39 =>
 (binA .sub (Go.TypeDesc.int Go.IntKind.i64) (cmpT Try.prog) true (.int .i64 16777216) (.int .i64 0)).bind fun a40 =>
 (binA .sub (Go.TypeDesc.int Go.IntKind.i64) (cmpT Try.prog) true a40 (.int .i64 8)).bind fun a41 =>
 (binA .eql (Go.TypeDesc.int Go.IntKind.i64) (cmpT Try.prog) false a39 a41).bind fun a42 =>
 endB false false n a42 H39 (E39 ++ (E24 ++ (E23 ++ (E22 ++ (E21 ++ (E18 ++ (E10 ++ (E5 ++ (E3 ++ (E1 ++ [])))))))))))
 (endB false false n (.bool false) H24 (E24 ++ (E23 ++ (E22 ++ (E21 ++ (E18 ++ (E10 ++ (E5 ++ (E3 ++ (E1 ++ [])))))))))))
 (endB false false n (.bool false) H24 (E24 ++ (E23 ++ (E22 ++ (E21 ++ (E18 ++ (E10 ++ (E5 ++ (E3 ++ (E1 ++ [])))))))))))
 (endB false false n (.bool false) H24 (E24 ++ (E23 ++ (E22 ++ (E21 ++ (E18 ++ (E10 ++ (E5 ++ (E3 ++ (E1 ++ [])))))))))))
 (endB false false n (.bool false) H24 (E24 ++ (E23 ++ (E22 ++ (E21 ++ (E18 ++ (E10 ++ (E5 ++ (E3 ++ (E1 ++ [])))))))))))
 (endB false false n (.bool false) H24 (E24 ++ (E23 ++ (E22 ++ (E21 ++ (E18 ++ (E10 ++ (E5 ++ (E3 ++ (E1 ++ [])))))))))))))))))
 ((binA .gtr (Go.TypeDesc.int Go.IntKind.i64) (cmpT Try.prog) true x0 (.int .i64 4194304)).bind fun a43 =>
 condK a43
 (mkK 1 1 (.int .u8 0) (.int .i64 0) (.int .i64 0) H1 fun a44 H44 E44 =>
 frzK a44 H44 fun a45 H45 =>
 callK (EV C) true n_disk_New [(.int .i64 16777216)] H45 fun a46 H46 E46 =>
 (extA a46 0).bind fun a47 =>
 (extA a46 1).bind fun a48 =>
 (binA .eql (Go.TypeDesc.pointer 57) (cmpT Try.prog) true a47 .nilp).bind fun a49 =>
 splitK a49
 (endB false false n (.bool false) H46 (E46 ++ (E44 ++ (E1 ++ []))))
 ((binA .neq (Go.TypeDesc.interface #[("Error", 123)]) (cmpT Try.prog) true a48 .nili).bind fun a50 =>
 condK a50
 (endB false false n (.bool false) H46 (E46 ++ (E44 ++ (E1 ++ []))))
 (callK (EV C) true n_wal_Open [a47] H46 fun a51 H51 E51 =>
 (extA a51 0).bind fun a52 =>
 (extA a51 1).bind fun a53 =>
 (extA a51 2).bind fun a54 =>
 (binA .eql (Go.TypeDesc.pointer 69) (cmpT Try.prog) true a52 .nilp).bind fun a55 =>
 splitK a55
 (endB false false n (.bool false) H51 (E51 ++ (E46 ++ (E44 ++ (E1 ++ [])))))
 ((binA .neq (Go.TypeDesc.interface #[("Error", 123)]) (cmpT Try.prog) true a54 .nili).bind fun a56 =>
 splitK a56
 (endB false false n (.bool false) H51 (E51 ++ (E46 ++ (E44 ++ (E1 ++ [])))))
 ((lenV a53 H51).bind fun a57 =>
 (binA .neq (Go.TypeDesc.int Go.IntKind.i64) (cmpT Try.prog) true a57 (.int .i64 0)).bind fun a58 =>
 condK a58
 (endB false false n (.bool false) H51 (E51 ++ (E46 ++ (E44 ++ (E1 ++ [])))))
 (callK (EV C) false n_wal_Frame [a45] H51 fun a59 H59 E59 =>
 (extA a59 0).bind fun a60 =>
 (extA a59 1).bind fun a61 =>
 litK 1 1 .nils [(0, a45)] H59 fun a62 H62 E62 =>
 callK (EV C) false n_wal_Wal_Write [a52, a62] H62 fun a63 H63 E63 =>
 litK 1 1 .nils [(0, a45)] H63 fun a64 H64 E64 =>
 callK (EV C) false n_wal_Wal_Replace [a52, a64] H64 fun a65 H65 E65 =>
 (binA .gtr (Go.TypeDesc.int Go.IntKind.i64) (cmpT Try.prog) true (.int .i64 0) (.int .i64 2097152)).bind fun a66 =>
 condK a66
 (splitK a1
 ((binA .eql (Go.TypeDesc.interface #[("Error", 123)]) (cmpT Try.prog) false a61 (.ifc t_api_Code (.int .i64 2))).bind fun a67 =>
 splitK a67
 ((binA .eql (Go.TypeDesc.interface #[("Error", 123)]) (cmpT Try.prog) false a63 (.ifc t_api_Code (.int .i64 2))).bind fun a68 =>
 splitK a68
 ((binA .eql (Go.TypeDesc.interface #[("Error", 123)]) (cmpT Try.prog) false a65 (.ifc t_api_Code (.int .i64 2))).bind fun a69 =>
 splitK a69
 ((lenV a60 H65).bind fun a70 =>
 (binA .eql (Go.TypeDesc.int Go.IntKind.i64) (cmpT Try.prog) true a70 (.int .i64 0)).bind fun a71 =>
 splitK a71
 (callK (EV C) false n_disk_Disk_Room [a47] H65 fun a72 H72 E72 =>
 (binA .eql (Go.TypeDesc.int Go.IntKind.i64) (cmpT Try.prog) true a72 (.int .i64 16777216)).bind fun a73 =>
 endB false false n a73 H72 (E72 ++ (E65 ++ (E64 ++ (E63 ++ (E62 ++ (E59 ++ (E51 ++ (E46 ++ (E44 ++ (E1 ++ [])))))))))))
 (endB false false n (.bool false) H65 (E65 ++ (E64 ++ (E63 ++ (E62 ++ (E59 ++ (E51 ++ (E46 ++ (E44 ++ (E1 ++ [])))))))))))
 (endB false false n (.bool false) H65 (E65 ++ (E64 ++ (E63 ++ (E62 ++ (E59 ++ (E51 ++ (E46 ++ (E44 ++ (E1 ++ [])))))))))))
 (endB false false n (.bool false) H65 (E65 ++ (E64 ++ (E63 ++ (E62 ++ (E59 ++ (E51 ++ (E46 ++ (E44 ++ (E1 ++ [])))))))))))
 (endB false false n (.bool false) H65 (E65 ++ (E64 ++ (E63 ++ (E62 ++ (E59 ++ (E51 ++ (E46 ++ (E44 ++ (E1 ++ [])))))))))))
 (endB false false n (.bool false) H65 (E65 ++ (E64 ++ (E63 ++ (E62 ++ (E59 ++ (E51 ++ (E46 ++ (E44 ++ (E1 ++ [])))))))))))
 (splitK a1
 ((binA .eql (Go.TypeDesc.interface #[("Error", 123)]) (cmpT Try.prog) true a61 .nili).bind fun a74 =>
 splitK a74
 ((binA .eql (Go.TypeDesc.interface #[("Error", 123)]) (cmpT Try.prog) true a63 .nili).bind fun a75 =>
 splitK a75
 ((binA .eql (Go.TypeDesc.interface #[("Error", 123)]) (cmpT Try.prog) true a65 .nili).bind fun a76 =>
 splitK a76
 ((lenV a60 H65).bind fun a77 =>
 (binA .add (Go.TypeDesc.int Go.IntKind.i64) (cmpT Try.prog) true (.int .i64 0) (.int .i64 8)).bind fun a78 =>
 (binA .eql (Go.TypeDesc.int Go.IntKind.i64) (cmpT Try.prog) false a77 a78).bind fun a79 =>
 splitK a79
 (callK (EV C) false n_disk_Disk_Room [a47] H65 fun a80 H80 E80 =>
 (binA .sub (Go.TypeDesc.int Go.IntKind.i64) (cmpT Try.prog) true (.int .i64 16777216) (.int .i64 0)).bind fun a81 =>
 (binA .sub (Go.TypeDesc.int Go.IntKind.i64) (cmpT Try.prog) true a81 (.int .i64 8)).bind fun a82 =>
 (binA .eql (Go.TypeDesc.int Go.IntKind.i64) (cmpT Try.prog) false a80 a82).bind fun a83 =>
 endB false false n a83 H80 (E80 ++ (E65 ++ (E64 ++ (E63 ++ (E62 ++ (E59 ++ (E51 ++ (E46 ++ (E44 ++ (E1 ++ [])))))))))))
 (endB false false n (.bool false) H65 (E65 ++ (E64 ++ (E63 ++ (E62 ++ (E59 ++ (E51 ++ (E46 ++ (E44 ++ (E1 ++ [])))))))))))
 (endB false false n (.bool false) H65 (E65 ++ (E64 ++ (E63 ++ (E62 ++ (E59 ++ (E51 ++ (E46 ++ (E44 ++ (E1 ++ [])))))))))))
 (endB false false n (.bool false) H65 (E65 ++ (E64 ++ (E63 ++ (E62 ++ (E59 ++ (E51 ++ (E46 ++ (E44 ++ (E1 ++ [])))))))))))
 (endB false false n (.bool false) H65 (E65 ++ (E64 ++ (E63 ++ (E62 ++ (E59 ++ (E51 ++ (E46 ++ (E44 ++ (E1 ++ [])))))))))))
 (endB false false n (.bool false) H65 (E65 ++ (E64 ++ (E63 ++ (E62 ++ (E59 ++ (E51 ++ (E46 ++ (E44 ++ (E1 ++ [])))))))))))))))))
 (mkK 1 1 (.int .u8 0) x0 x0 H1 fun a84 H84 E84 =>
 frzK a84 H84 fun a85 H85 =>
 callK (EV C) true n_disk_New [(.int .i64 16777216)] H85 fun a86 H86 E86 =>
 (extA a86 0).bind fun a87 =>
 (extA a86 1).bind fun a88 =>
 (binA .eql (Go.TypeDesc.pointer 57) (cmpT Try.prog) true a87 .nilp).bind fun a89 =>
 splitK a89
 (endB false false n (.bool false) H86 (E86 ++ (E84 ++ (E1 ++ []))))
 ((binA .neq (Go.TypeDesc.interface #[("Error", 123)]) (cmpT Try.prog) true a88 .nili).bind fun a90 =>
 condK a90
 (endB false false n (.bool false) H86 (E86 ++ (E84 ++ (E1 ++ []))))
 (callK (EV C) true n_wal_Open [a87] H86 fun a91 H91 E91 =>
 (extA a91 0).bind fun a92 =>
 (extA a91 1).bind fun a93 =>
 (extA a91 2).bind fun a94 =>
 (binA .eql (Go.TypeDesc.pointer 69) (cmpT Try.prog) true a92 .nilp).bind fun a95 =>
 splitK a95
 (endB false false n (.bool false) H91 (E91 ++ (E86 ++ (E84 ++ (E1 ++ [])))))
 ((binA .neq (Go.TypeDesc.interface #[("Error", 123)]) (cmpT Try.prog) true a94 .nili).bind fun a96 =>
 splitK a96
 (endB false false n (.bool false) H91 (E91 ++ (E86 ++ (E84 ++ (E1 ++ [])))))
 ((lenV a93 H91).bind fun a97 =>
 (binA .neq (Go.TypeDesc.int Go.IntKind.i64) (cmpT Try.prog) true a97 (.int .i64 0)).bind fun a98 =>
 condK a98
 (endB false false n (.bool false) H91 (E91 ++ (E86 ++ (E84 ++ (E1 ++ [])))))
 (callK (EV C) false n_wal_Frame [a85] H91 fun a99 H99 E99 =>
 (extA a99 0).bind fun a100 =>
 (extA a99 1).bind fun a101 =>
 litK 1 1 .nils [(0, a85)] H99 fun a102 H102 E102 =>
 callK (EV C) false n_wal_Wal_Write [a92, a102] H102 fun a103 H103 E103 =>
 litK 1 1 .nils [(0, a85)] H103 fun a104 H104 E104 =>
 callK (EV C) false n_wal_Wal_Replace [a92, a104] H104 fun a105 H105 E105 =>
 (binA .gtr (Go.TypeDesc.int Go.IntKind.i64) (cmpT Try.prog) true x0 (.int .i64 2097152)).bind fun a106 =>
 condK a106
 (splitK a1
 ((binA .eql (Go.TypeDesc.interface #[("Error", 123)]) (cmpT Try.prog) false a101 (.ifc t_api_Code (.int .i64 2))).bind fun a107 =>
 splitK a107
 ((binA .eql (Go.TypeDesc.interface #[("Error", 123)]) (cmpT Try.prog) false a103 (.ifc t_api_Code (.int .i64 2))).bind fun a108 =>
 splitK a108
 ((binA .eql (Go.TypeDesc.interface #[("Error", 123)]) (cmpT Try.prog) false a105 (.ifc t_api_Code (.int .i64 2))).bind fun a109 =>
 splitK a109
 ((lenV a100 H105).bind fun a110 =>
 (binA .eql (Go.TypeDesc.int Go.IntKind.i64) (cmpT Try.prog) true a110 (.int .i64 0)).bind fun a111 =>
 splitK a111
 (callK (EV C) false n_disk_Disk_Room [a87] H105 fun a112 H112 E112 =>
 (binA .eql (Go.TypeDesc.int Go.IntKind.i64) (cmpT Try.prog) true a112 (.int .i64 16777216)).bind fun a113 =>
 endB false false n a113 H112 (E112 ++ (E105 ++ (E104 ++ (E103 ++ (E102 ++ (E99 ++ (E91 ++ (E86 ++ (E84 ++ (E1 ++ [])))))))))))
 (endB false false n (.bool false) H105 (E105 ++ (E104 ++ (E103 ++ (E102 ++ (E99 ++ (E91 ++ (E86 ++ (E84 ++ (E1 ++ [])))))))))))
 (endB false false n (.bool false) H105 (E105 ++ (E104 ++ (E103 ++ (E102 ++ (E99 ++ (E91 ++ (E86 ++ (E84 ++ (E1 ++ [])))))))))))
 (endB false false n (.bool false) H105 (E105 ++ (E104 ++ (E103 ++ (E102 ++ (E99 ++ (E91 ++ (E86 ++ (E84 ++ (E1 ++ [])))))))))))
 (endB false false n (.bool false) H105 (E105 ++ (E104 ++ (E103 ++ (E102 ++ (E99 ++ (E91 ++ (E86 ++ (E84 ++ (E1 ++ [])))))))))))
 (endB false false n (.bool false) H105 (E105 ++ (E104 ++ (E103 ++ (E102 ++ (E99 ++ (E91 ++ (E86 ++ (E84 ++ (E1 ++ [])))))))))))
 (splitK a1
 ((binA .eql (Go.TypeDesc.interface #[("Error", 123)]) (cmpT Try.prog) true a101 .nili).bind fun a114 =>
 splitK a114
 ((binA .eql (Go.TypeDesc.interface #[("Error", 123)]) (cmpT Try.prog) true a103 .nili).bind fun a115 =>
 splitK a115
 ((binA .eql (Go.TypeDesc.interface #[("Error", 123)]) (cmpT Try.prog) true a105 .nili).bind fun a116 =>
 splitK a116
 ((lenV a100 H105).bind fun a117 =>
 (binA .add (Go.TypeDesc.int Go.IntKind.i64) (cmpT Try.prog) true x0 (.int .i64 8)).bind fun a118 =>
 (binA .eql (Go.TypeDesc.int Go.IntKind.i64) (cmpT Try.prog) false a117 a118).bind fun a119 =>
 splitK a119
 (callK (EV C) false n_disk_Disk_Room [a87] H105 fun a120 H120 E120 =>
 (binA .sub (Go.TypeDesc.int Go.IntKind.i64) (cmpT Try.prog) true (.int .i64 16777216) x0).bind fun a121 =>
 (binA .sub (Go.TypeDesc.int Go.IntKind.i64) (cmpT Try.prog) true a121 (.int .i64 8)).bind fun a122 =>
 (binA .eql (Go.TypeDesc.int Go.IntKind.i64) (cmpT Try.prog) false a120 a122).bind fun a123 =>
 endB false false n a123 H120 (E120 ++ (E105 ++ (E104 ++ (E103 ++ (E102 ++ (E99 ++ (E91 ++ (E86 ++ (E84 ++ (E1 ++ [])))))))))))
 (endB false false n (.bool false) H105 (E105 ++ (E104 ++ (E103 ++ (E102 ++ (E99 ++ (E91 ++ (E86 ++ (E84 ++ (E1 ++ [])))))))))))
 (endB false false n (.bool false) H105 (E105 ++ (E104 ++ (E103 ++ (E102 ++ (E99 ++ (E91 ++ (E86 ++ (E84 ++ (E1 ++ [])))))))))))
 (endB false false n (.bool false) H105 (E105 ++ (E104 ++ (E103 ++ (E102 ++ (E99 ++ (E91 ++ (E86 ++ (E84 ++ (E1 ++ [])))))))))))
 (endB false false n (.bool false) H105 (E105 ++ (E104 ++ (E103 ++ (E102 ++ (E99 ++ (E91 ++ (E86 ++ (E84 ++ (E1 ++ [])))))))))))
 (endB false false n (.bool false) H105 (E105 ++ (E104 ++ (E103 ++ (E102 ++ (E99 ++ (E91 ++ (E86 ++ (E84 ++ (E1 ++ [])))))))))))))))))))) (List.length H) = some r) : EV C n_law16_WalLong [x0] H = some r :=
 EV_of_fnK' (fn := Try.f5) (by kernel_rfl) (by kernel_rfl) (by kernel_rfl) hh
end Go.Pm
namespace Go.Pm
open Go.Proofs
set_option linter.unusedVariables false
set_option maxRecDepth 100000
theorem disk_New_of {r : R3} {x0 : AV} {H : List AObj} (hh : (fun n => (
 (binA .lss (Go.TypeDesc.int Go.IntKind.i64) (cmpT Try.prog) true x0 (.int .i64 0)).bind fun a1 =>
 splitK a1
 (endB true true n (.tup [.nilp, (.ifc t_api_Code (.int .i64 1))]) H [])
 ((binA .gtr (Go.TypeDesc.int Go.IntKind.i64) (cmpT Try.prog) true x0 (.int .i64 67108864)).bind fun a2 =>
 condK a2
 (endB true true n (.tup [.nilp, (.ifc t_api_Code (.int .i64 1))]) H [])
 (mpK H fun a3 H3 E3 =>
 (fillB (AV.cells (.agg [(.int .i64 0), .nilm, (.bool false), (.int .i64 0), (.bool false), (.int .i64 0)])) [(0, 1, x0), (1, 1, a3)]).bind fun c4 =>
 newK (.agg c4) H3 fun a5 H5 E5 =>
 endB true true n (.tup [a5, .nili]) H5 (E5 ++ (E3 ++ [])))))) (List.length H) = some r) : EV C n_disk_New [x0] H = some r :=
 EV_of_fnK' (fn := Try.f11) (by kernel_rfl) (by kernel_rfl) (by kernel_rfl) hh
theorem disk_Disk_Append_of {r : R3} {x0 x1 x2 : AV} {H : List AObj} (hh : (fun n => (
 (nilA x0).bind fun a1 =>
 (offA a1 1).bind fun a2 =>
 (loadA false 1 a2 H).bind fun a3 =>
 (lookV (some Go.TypeDesc.string) (.agg [.nils, (.int .i64 0)]) true a3 x1 H).bind fun a4 =>
 (extA a4 0).bind fun a5 =>
 (extA a4 1).bind fun a6 =>
 newK (.agg [.nils, (.int .i64 0)]) H fun a7 H7 E7 =>
 stoK 2 a7 a5 H7 fun H8 E8 =>
 (nilA x0).bind fun a9 =>
 (offA a9 2).bind fun a10 =>
 (loadA false 1 a10 H8).bind fun a11 =>
 condK a11
 (endB false false n (.ifc t_api_Code (.int .i64 10)) H8 (E8 ++ (E7 ++ [])))
 (callK (EV C) false n_disk_named [x1] H8 fun a12 H12 E12 =>
 (unA .not a12).bind fun a13 =>
 condK a13
 (endB false false n (.ifc t_api_Code (.int .i64 1)) H12 (E12 ++ (E8 ++ (E7 ++ []))))
 ((lenV x2 H12).bind fun a14 =>
 callK (EV C) false n_disk_Disk_Room [x0] H12 fun a15 H15 E15 =>
 (binA .gtr (Go.TypeDesc.int Go.IntKind.i64) (cmpT Try.prog) false a14 a15).bind fun a16 =>
 splitK a16
 (endB false false n (.ifc t_api_Code (.int .i64 11)) H15 (E15 ++ (E12 ++ (E8 ++ (E7 ++ [])))))
 ((unA .not a6).bind fun a17 =>
 splitK a17
 ((nilA x0).bind fun a18 =>
 (offA a18 1).bind fun a19 =>
 (loadA false 1 a19 H15).bind fun a20 =>
 (lenW a20 H15).bind fun a21 =>
 (binA .geq (Go.TypeDesc.int Go.IntKind.i64) (cmpT Try.prog) true a21 (.int .i64 8)).bind fun a22 =>
 condK a22
 (endB false false n (.ifc t_api_Code (.int .i64 11)) H15 (E15 ++ (E12 ++ (E8 ++ (E7 ++ [])))))
 ((offA a7 0).bind fun a23 =>
 (loadA false 1 a23 H15).bind fun a24 =>
 litK 1 2 .nils [(0, a24), (1, x2)] H15 fun a25 H25 E25 =>
 callK (EV C) false n_Concat_byte [a25] H25 fun a26 H26 E26 =>
 (offA a7 0).bind fun a27 =>
 stoK 1 a27 a26 H26 fun H28 E28 =>
 (nilA x0).bind fun a29 =>
 (offA a29 1).bind fun a30 =>
 (loadA false 1 a30 H28).bind fun a31 =>
 (loadA true 2 a7 H28).bind fun a32 =>
 updK (some Go.TypeDesc.string) a31 x1 a32 H28 fun H33 =>
 callK (EV C) false n_disk_Disk_step [x0] H33 fun a34 H34 E34 =>
 (unA .not a34).bind fun a35 =>
 condK a35
 (endB false false n (.ifc t_api_Code (.int .i64 10)) H34 (E34 ++ (E28 ++ (E26 ++ (E25 ++ (E15 ++ (E12 ++ (E8 ++ (E7 ++ [])))))))))
 (endB false false n .nili H34 (E34 ++ (E28 ++ (E26 ++ (E25 ++ (E15 ++ (E12 ++ (E8 ++ (E7 ++ [])))))))))))
 ((offA a7 0).bind fun a36 =>
 (loadA false 1 a36 H15).bind fun a37 =>
 litK 1 2 .nils [(0, a37), (1, x2)] H15 fun a38 H38 E38 =>
 callK (EV C) false n_Concat_byte [a38] H38 fun a39 H39 E39 =>
 (offA a7 0).bind fun a40 =>
 stoK 1 a40 a39 H39 fun H41 E41 =>
 (nilA x0).bind fun a42 =>
 (offA a42 1).bind fun a43 =>
 (loadA false 1 a43 H41).bind fun a44 =>
 (loadA true 2 a7 H41).bind fun a45 =>
 updK (some Go.TypeDesc.string) a44 x1 a45 H41 fun H46 =>
 callK (EV C) false n_disk_Disk_step [x0] H46 fun a47 H47 E47 =>
 (unA .not a47).bind fun a48 =>
 condK a48
 (endB false false n (.ifc t_api_Code (.int .i64 10)) H47 (E47 ++ (E41 ++ (E39 ++ (E38 ++ (E15 ++ (E12 ++ (E8 ++ (E7 ++ [])))))))))
 (endB false false n .nili H47 (E47 ++ (E41 ++ (E39 ++ (E38 ++ (E15 ++ (E12 ++ (E8 ++ (E7 ++ []))))))))))))))) (List.length H) = some r) : EV C n_disk_Disk_Append [x0, x1, x2] H = some r :=
 EV_of_fnK' (fn := Try.f12) (by kernel_rfl) (by kernel_rfl) (by kernel_rfl) hh
theorem disk_Disk_Read_of {r : R3} {x0 x1 : AV} {H : List AObj} (hh : (fun n => (
 callK (EV C) false n_disk_Disk_there [x0, x1] H fun a1 H1 E1 =>
 (binA .neq (Go.TypeDesc.interface #[("Error", 123)]) (cmpT Try.prog) true a1 .nili).bind fun a2 =>
 condK a2
 (endB false false n (.tup [.nils, a1]) H1 (E1 ++ []))
 ((nilA x0).bind fun a3 =>
 (offA a3 1).bind fun a4 =>
 (loadA false 1 a4 H1).bind fun a5 =>
 (lookV (some Go.TypeDesc.string) (.agg [.nils, (.int .i64 0)]) false a5 x1 H1).bind fun a6 =>
 (fldA false 1 0 a6).bind fun a7 =>
 callK (EV C) false n_Clone_byte [a7] H1 fun a8 H8 E8 =>
 endB false false n (.tup [a8, .nili]) H8 (E8 ++ (E1 ++ []))))) (List.length H) = some r) : EV C n_disk_Disk_Read [x0, x1] H = some r :=
 EV_of_fnK' (fn := Try.f13) (by kernel_rfl) (by kernel_rfl) (by kernel_rfl) hh
theorem disk_Disk_Sync_of {r : R3} {x0 x1 : AV} {H : List AObj} (hh : (fun n => (
 callK (EV C) false n_disk_Disk_there [x0, x1] H fun a1 H1 E1 =>
 (binA .neq (Go.TypeDesc.interface #[("Error", 123)]) (cmpT Try.prog) true a1 .nili).bind fun a2 =>
 condK a2
 (endB false false n a1 H1 (E1 ++ []))
 (callK (EV C) false n_disk_Disk_step [x0] H1 fun a3 H3 E3 =>
 (unA .not a3).bind fun a4 =>
 condK a4
 (endB false false n (.ifc t_api_Code (.int .i64 10)) H3 (E3 ++ (E1 ++ [])))
 ((nilA x0).bind fun a5 =>
 (offA a5 1).bind fun a6 =>
 (loadA false 1 a6 H3).bind fun a7 =>
 (lookV (some Go.TypeDesc.string) (.agg [.nils, (.int .i64 0)]) false a7 x1 H3).bind fun a8 =>
 newK (.agg [.nils, (.int .i64 0)]) H3 fun a9 H9 E9 =>
 stoK 2 a9 a8 H9 fun H10 E10 =>
 (offA a9 0).bind fun a11 =>
 (loadA false 1 a11 H10).bind fun a12 =>
 (lenV a12 H10).bind fun a13 =>
 (offA a9 1).bind fun a14 =>
 stoK 1 a14 a13 H10 fun H15 E15 =>
 (nilA x0).bind fun a16 =>
 (offA a16 1).bind fun a17 =>
 (loadA false 1 a17 H15).bind fun a18 =>
 (loadA true 2 a9 H15).bind fun a19 =>
 updK (some Go.TypeDesc.string) a18 x1 a19 H15 fun H20 =>
 endB false false n .nili H20 (E15 ++ (E10 ++ (E9 ++ (E3 ++ (E1 ++ []))))))))) (List.length H) = some r) : EV C n_disk_Disk_Sync [x0, x1] H = some r :=
 EV_of_fnK' (fn := Try.f14) (by kernel_rfl) (by kernel_rfl) (by kernel_rfl) hh
theorem disk_Disk_On_of {r : R3} {x0 : AV} {H : List AObj} (hh : (fun n => (
 (nilA x0).bind fun a1 =>
 (offA a1 2).bind fun a2 =>
 (loadA false 1 a2 H).bind fun a3 =>
 (unA .not a3).bind fun a4 =>
 endB false false n a4 H [])) (List.length H) = some r) : EV C n_disk_Disk_On [x0] H = some r :=
 EV_of_fnK' (fn := Try.f16) (by kernel_rfl) (by kernel_rfl) (by kernel_rfl) hh
theorem law16_up_of {r : R3} {H : List AObj} (hh : (fun n => (
 callK (EV C) false n_wal_Frame [.nils] H fun a1 H1 E1 =>
 (extA a1 0).bind fun a2 =>
 (extA a1 1).bind fun a3 =>
 rawK 1 9 (.int .u8 0) [(0, (.int .u8 49)), (1, (.int .u8 50)), (2, (.int .u8 51)), (3, (.int .u8 52)), (4, (.int .u8 53)), (5, (.int .u8 54)), (6, (.int .u8 55)), (7, (.int .u8 56)), (8, (.int .u8 57))] H1 fun a4 H4 E4 =>
 (cvR a4 H4).bind fun a5 =>
 callK (EV C) false n_wal_Sum [a5] H4 fun a6 H6 E6 =>
 (binA .eql (Go.TypeDesc.int Go.IntKind.u32) (cmpT Try.prog) true a6 (.int .u32 3808858755)).bind fun a7 =>
 splitK a7
 ((binA .eql (Go.TypeDesc.interface #[("Error", 123)]) (cmpT Try.prog) true a3 .nili).bind fun a8 =>
 splitK a8
 ((lenV a2 H6).bind fun a9 =>
 (binA .eql (Go.TypeDesc.int Go.IntKind.i64) (cmpT Try.prog) true a9 (.int .i64 8)).bind fun a10 =>
 endB false false n a10 H6 (E6 ++ (E4 ++ (E1 ++ []))))
 (endB false false n (.bool false) H6 (E6 ++ (E4 ++ (E1 ++ [])))))
 (endB false false n (.bool false) H6 (E6 ++ (E4 ++ (E1 ++ [])))))) (List.length H) = some r) : EV C n_law16_up [] H = some r :=
 EV_of_fnK' (fn := Try.f18) (by kernel_rfl) (by kernel_rfl) (by kernel_rfl) hh
end Go.Pm
namespace Go.Pm
open Go.Proofs
set_option linter.unusedVariables false
set_option maxRecDepth 100000
theorem wal_Open_of {r : R3} {x0 : AV} {H : List AObj} (hh : (fun n => (
 (binA .eql (Go.TypeDesc.pointer 57) (cmpT Try.prog) true x0 .nilp).bind fun a1 =>
 condK a1
 (endB true true n (.tup [.nilp, .nils, (.ifc t_api_Code (.int .i64 1))]) H [])
 (callK (EV C) false n_disk_Disk_On [x0] H fun a2 H2 E2 =>
 (unA .not a2).bind fun a3 =>
 condK a3
 (endB true true n (.tup [.nilp, .nils, (.ifc t_api_Code (.int .i64 10))]) H2 (E2 ++ []))
 ((fillB (AV.cells (.agg [.nilp])) [(0, 1, x0)]).bind fun c4 =>
 newK (.agg c4) H2 fun a5 H5 E5 =>
 callK (EV C) false n_wal_Wal_clean [a5] H5 fun a6 H6 E6 =>
 (binA .neq (Go.TypeDesc.interface #[("Error", 123)]) (cmpT Try.prog) true a6 .nili).bind fun a7 =>
 condK a7
 (endB true true n (.tup [.nilp, .nils, a6]) H6 (E6 ++ (E5 ++ (E2 ++ []))))
 (callK (EV C) false n_disk_Disk_Read [x0, (.str { data := #[108, 111, 103] })] H6 fun a8 H8 E8 =>
 (extA a8 0).bind fun a9 =>
 (extA a8 1).bind fun a10 =>
 (binA .neq (Go.TypeDesc.interface #[("Error", 123)]) (cmpT Try.prog) true a10 .nili).bind fun a11 =>
 splitK a11
 (callK (EV C) false n_errors_Is [a10, (.ifc t_api_Code (.int .i64 9))] H8 fun a12 H12 E12 =>
 (unA .not a12).bind fun a13 =>
 condK a13
 (endB true true n (.tup [.nilp, .nils, a10]) H12 (E12 ++ (E8 ++ (E6 ++ (E5 ++ (E2 ++ []))))))
 (callK (EV C) false n_wal_Scan [a9] H12 fun a14 H14 E14 =>
 (extA a14 0).bind fun a15 =>
 (extA a14 1).bind fun a16 =>
 (lenV a9 H14).bind fun a17 =>
 (binA .lss (Go.TypeDesc.int Go.IntKind.i64) (cmpT Try.prog) false a16 a17).bind fun a18 =>
 condK a18
 (callK (EV C) false n_wal_Wal_Replace [a5, a15] H14 fun a19 H19 E19 =>
 (binA .neq (Go.TypeDesc.interface #[("Error", 123)]) (cmpT Try.prog) true a19 .nili).bind fun a20 =>
 condK a20
 (endB true true n (.tup [.nilp, .nils, a19]) H19 (E19 ++ (E14 ++ (E12 ++ (E8 ++ (E6 ++ (E5 ++ (E2 ++ []))))))))
 (endB true true n (.tup [a5, a15, .nili]) H19 (E19 ++ (E14 ++ (E12 ++ (E8 ++ (E6 ++ (E5 ++ (E2 ++ [])))))))))
 (endB true true n (.tup [a5, a15, .nili]) H14 (E14 ++ (E12 ++ (E8 ++ (E6 ++ (E5 ++ (E2 ++ [])))))))))
 (callK (EV C) false n_wal_Scan [a9] H8 fun a21 H21 E21 =>
 (extA a21 0).bind fun a22 =>
 (extA a21 1).bind fun a23 =>
 (lenV a9 H21).bind fun a24 =>
 (binA .lss (Go.TypeDesc.int Go.IntKind.i64) (cmpT Try.prog) false a23 a24).bind fun a25 =>
 condK a25
 (callK (EV C) false n_wal_Wal_Replace [a5, a22] H21 fun a26 H26 E26 =>
 (binA .neq (Go.TypeDesc.interface #[("Error", 123)]) (cmpT Try.prog) true a26 .nili).bind fun a27 =>
 condK a27
 (endB true true n (.tup [.nilp, .nils, a26]) H26 (E26 ++ (E21 ++ (E8 ++ (E6 ++ (E5 ++ (E2 ++ [])))))))
 (endB true true n (.tup [a5, a22, .nili]) H26 (E26 ++ (E21 ++ (E8 ++ (E6 ++ (E5 ++ (E2 ++ []))))))))
 (endB true true n (.tup [a5, a22, .nili]) H21 (E21 ++ (E8 ++ (E6 ++ (E5 ++ (E2 ++ [])))))))))))) (List.length H) = some r) : EV C n_wal_Open [x0] H = some r :=
 EV_of_fnK' (fn := Try.f19) (by kernel_rfl) (by kernel_rfl) (by kernel_rfl) hh
theorem wal_Frame_of {r : R3} {x0 : AV} {H : List AObj} (hh : (fun n => (
 (lenV x0 H).bind fun a1 =>
 (binA .gtr (Go.TypeDesc.int Go.IntKind.i64) (cmpT Try.prog) true a1 (.int .i64 2097152)).bind fun a2 =>
 condK a2
 (endB false false n (.tup [.nils, (.ifc t_api_Code (.int .i64 2))]) H [])
 ((lenV x0 H).bind fun a3 =>
 (cvI .u32 a3).bind fun a4 =>
 callK (EV C) false n_wal_four [a4] H fun a5 H5 E5 =>
 callK (EV C) false n_wal_check [a5, x0] H5 fun a6 H6 E6 =>
 callK (EV C) false n_wal_four [a6] H6 fun a7 H7 E7 =>
 litK 1 3 .nils [(0, a5), (1, a7), (2, x0)] H7 fun a8 H8 E8 =>
 callK (EV C) false n_Concat_byte [a8] H8 fun a9 H9 E9 =>
 endB false false n (.tup [a9, .nili]) H9 (E9 ++ (E8 ++ (E7 ++ (E6 ++ (E5 ++ [])))))))) (List.length H) = some r) : EV C n_wal_Frame [x0] H = some r :=
 EV_of_fnK' (fn := Try.f20) (by kernel_rfl) (by kernel_rfl) (by kernel_rfl) hh
theorem wal_Wal_Write_of {r : R3} {x0 x1 : AV} {H : List AObj} (hh : (fun n => (
 callK (EV C) false n_wal_frames [x1] H fun a1 H1 E1 =>
 (extA a1 0).bind fun a2 =>
 (extA a1 1).bind fun a3 =>
 (binA .neq (Go.TypeDesc.interface #[("Error", 123)]) (cmpT Try.prog) true a3 .nili).bind fun a4 =>
 condK a4
 (endB false false n a3 H1 (E1 ++ []))
 ((nilA x0).bind fun a5 =>
 (offA a5 0).bind fun a6 =>
 (loadA false 1 a6 H1).bind fun a7 =>
 callK (EV C) false n_disk_Disk_Append [a7, (.str { data := #[108, 111, 103] }), a2] H1 fun a8 H8 E8 =>
 (binA .neq (Go.TypeDesc.interface #[("Error", 123)]) (cmpT Try.prog) true a8 .nili).bind fun a9 =>
 condK a9
 (endB false false n a8 H8 (E8 ++ (E1 ++ [])))
 ((nilA x0).bind fun a10 =>
 (offA a10 0).bind fun a11 =>
 (loadA false 1 a11 H8).bind fun a12 =>
 callK (EV C) false n_disk_Disk_Sync [a12, (.str { data := #[108, 111, 103] })] H8 fun a13 H13 E13 =>
 endB false false n a13 H13 (E13 ++ (E8 ++ (E1 ++ []))))))) (List.length H) = some r) : EV C n_wal_Wal_Write [x0, x1] H = some r :=
 EV_of_fnK' (fn := Try.f21) (by kernel_rfl) (by kernel_rfl) (by kernel_rfl) hh
theorem wal_Wal_Replace_of {r : R3} {x0 x1 : AV} {H : List AObj} (hh : (fun n => (
 callK (EV C) false n_wal_frames [x1] H fun a1 H1 E1 =>
 (extA a1 0).bind fun a2 =>
 (extA a1 1).bind fun a3 =>
 (binA .neq (Go.TypeDesc.interface #[("Error", 123)]) (cmpT Try.prog) true a3 .nili).bind fun a4 =>
 condK a4
 (endB false false n a3 H1 (E1 ++ []))
 (callK (EV C) false n_wal_Wal_clean [x0] H1 fun a5 H5 E5 =>
 (binA .neq (Go.TypeDesc.interface #[("Error", 123)]) (cmpT Try.prog) true a5 .nili).bind fun a6 =>
 condK a6
 (endB false false n a5 H5 (E5 ++ (E1 ++ [])))
 ((nilA x0).bind fun a7 =>
 (offA a7 0).bind fun a8 =>
 (loadA false 1 a8 H5).bind fun a9 =>
 callK (EV C) false n_disk_Disk_Append [a9, (.str { data := #[110, 101, 119] }), a2] H5 fun a10 H10 E10 =>
 (binA .neq (Go.TypeDesc.interface #[("Error", 123)]) (cmpT Try.prog) true a10 .nili).bind fun a11 =>
 condK a11
 (endB false false n a10 H10 (E10 ++ (E5 ++ (E1 ++ []))))
 ((nilA x0).bind fun a12 =>
 (offA a12 0).bind fun a13 =>
 (loadA false 1 a13 H10).bind fun a14 =>
 callK (EV C) false n_disk_Disk_Sync [a14, (.str { data := #[110, 101, 119] })] H10 fun a15 H15 E15 =>
 (binA .neq (Go.TypeDesc.interface #[("Error", 123)]) (cmpT Try.prog) true a15 .nili).bind fun a16 =>
 condK a16
 (endB false false n a15 H15 (E15 ++ (E10 ++ (E5 ++ (E1 ++ [])))))
 ((nilA x0).bind fun a17 =>
 (offA a17 0).bind fun a18 =>
 (loadA false 1 a18 H15).bind fun a19 =>
 callK (EV C) false n_disk_Disk_Rename [a19, (.str { data := #[110, 101, 119] }), (.str { data := #[108, 111, 103] })] H15 fun a20 H20 E20 =>
 endB false false n a20 H20 (E20 ++ (E15 ++ (E10 ++ (E5 ++ (E1 ++ []))))))))))) (List.length H) = some r) : EV C n_wal_Wal_Replace [x0, x1] H = some r :=
 EV_of_fnK' (fn := Try.f22) (by kernel_rfl) (by kernel_rfl) (by kernel_rfl) hh
noncomputable def wal_Scan_J3 (n : Nat) (t0 t4 t5 : AV) (H : List AObj) (E : List Nat) : Option R3 :=
 loopK Try.prog C.G (EV C) (C.hint 27) Try.f27 (cAt (bodyOf Try.f27) [1, 1, 1, 0, 0, 0]) (kAt Try.prog C.G (EV C) (C.hint 27) Try.f27 (bodyOf Try.f27) [1, 1, 1, 0, 0] [] (endK Try.prog (C.hint 27) Try.f27 n))
 ⟨pat 63 [(0, t0), (4, t4), (5, t5)], H, E⟩
theorem wal_Scan_J3_of {r : R3} {n : Nat} {t0 t4 t5 : AV} {H : List AObj} {E : List Nat} (hh : (
 (lenV t0 H).bind fun a1 =>
 (binA .sub (Go.TypeDesc.int Go.IntKind.i64) (cmpT Try.prog) false a1 t5).bind fun a2 =>
 (binA .geq (Go.TypeDesc.int Go.IntKind.i64) (cmpT Try.prog) true a2 (.int .i64 8)).bind fun a3 =>
 condK a3
 ((binA .add (Go.TypeDesc.int Go.IntKind.i64) (cmpT Try.prog) true t5 (.int .i64 4)).bind fun a4 =>
 (cutA 1 t0 (some t5) (some a4) none H).bind fun a5 =>
 callK (EV C) false n_wal_number [a5] H fun a6 H6 E6 =>
 (binA .gtr (Go.TypeDesc.int Go.IntKind.u32) (cmpT Try.prog) true a6 (.int .u32 2097152)).bind fun a7 =>
 splitK a7
 (endB false false n (.tup [t4, t5]) H6 ((E6 ++ []) ++ E))
 ((cvI .i64 a6).bind fun a8 =>
 (lenV t0 H6).bind fun a9 =>
 (binA .sub (Go.TypeDesc.int Go.IntKind.i64) (cmpT Try.prog) false a9 t5).bind fun a10 =>
 (binA .sub (Go.TypeDesc.int Go.IntKind.i64) (cmpT Try.prog) true a10 (.int .i64 8)).bind fun a11 =>
 (binA .gtr (Go.TypeDesc.int Go.IntKind.i64) (cmpT Try.prog) false a8 a11).bind fun a12 =>
 condK a12
 (endB false false n (.tup [t4, t5]) H6 ((E6 ++ []) ++ E))
 ((binA .add (Go.TypeDesc.int Go.IntKind.i64) (cmpT Try.prog) true t5 (.int .i64 8)).bind fun a13 =>
 (binA .add (Go.TypeDesc.int Go.IntKind.i64) (cmpT Try.prog) true t5 (.int .i64 8)).bind fun a14 =>
 (cvI .i64 a6).bind fun a15 =>
 (binA .add (Go.TypeDesc.int Go.IntKind.i64) (cmpT Try.prog) false a14 a15).bind fun a16 =>
 (cutA 1 t0 (some a13) (some a16) none H6).bind fun a17 =>
 (callD (EV C) n_wal_check [a5, a17] H6).bind fun a18 =>
 (binA .add (Go.TypeDesc.int Go.IntKind.i64) (cmpT Try.prog) true t5 (.int .i64 4)).bind fun a19 =>
 (cutA 1 t0 (some a19) none none H6).bind fun a20 =>
 (callD (EV C) n_wal_number [a20] H6).bind fun a21 =>
 (binA .neq (Go.TypeDesc.int Go.IntKind.u32) (cmpT Try.prog) false a18 a21).bind fun a22 =>
 condK a22
 (endB false false n (.tup [t4, t5]) H6 ((E6 ++ []) ++ E))
 (callK (EV C) false n_Clone_byte [a17] H6 fun a23 H23 E23 =>
 litK 1 1 .nils [(0, a23)] H23 fun a24 H24 E24 =>
 appK 1 24 t4 a24 H24 fun a25 H25 E25 =>
 (cvI .i64 a6).bind fun a26 =>
 (binA .add (Go.TypeDesc.int Go.IntKind.i64) (cmpT Try.prog) true (.int .i64 8) a26).bind fun a27 =>
 (binA .add (Go.TypeDesc.int Go.IntKind.i64) (cmpT Try.prog) false t5 a27).bind fun a28 =>
 wal_Scan_J3 n t0 a25 a28 H25 ((E25 ++ (E24 ++ (E23 ++ (E6 ++ [])))) ++ E)))))
 (endB false false n (.tup [t4, t5]) H E)) = some r) : wal_Scan_J3 n t0 t4 t5 H E = some r :=
 loop_step' (by kernel_rfl) hh
theorem wal_Scan_of {r : R3} {x0 : AV} {H : List AObj} (hh : (fun n => (
 wal_Scan_J3 n x0 (.slc (List.length H) 0 0 0) (.int .i64 0) (H ++ [.vrow]) [])) (List.length H) = some r) : EV C n_wal_Scan [x0] H = some r :=
 EV_of_fnK' (fn := Try.f27) (by kernel_rfl) (by kernel_rfl) (by kernel_rfl) hh
end Go.Pm
namespace Go.Pm
open Go.Proofs
set_option linter.unusedVariables false
set_option maxRecDepth 100000
theorem disk_named_of {r : R3} {x0 : AV} {H : List AObj} (hh : (fun n => (
 (lenS x0).bind fun a1 =>
 (binA .geq (Go.TypeDesc.int Go.IntKind.i64) (cmpT Try.prog) true a1 (.int .i64 1)).bind fun a2 =>
 splitK a2
 ((lenS x0).bind fun a3 =>
 (binA .leq (Go.TypeDesc.int Go.IntKind.i64) (cmpT Try.prog) true a3 (.int .i64 16)).bind fun a4 =>
 endB false false n a4 H [])
 (endB false false n (.bool false) H []))) (List.length H) = some r) : EV C n_disk_named [x0] H = some r :=
 EV_of_fnK' (fn := Try.f28) (by kernel_rfl) (by kernel_rfl) (by kernel_rfl) hh
noncomputable def Concat_byte_J3 (n : Nat) (t0 t3 t9 t10 t11 : AV) (H : List AObj) (E : List Nat) : Option R3 :=
 loopK Try.prog C.G (EV C) (C.hint 29) Try.f29 (cAt (bodyOf Try.f29) [1, 1, 0, 1, 0, 0]) (kAt Try.prog C.G (EV C) (C.hint 29) Try.f29 (bodyOf Try.f29) [1, 1, 0, 1, 0] [] (endK Try.prog (C.hint 29) Try.f29 n))
 ⟨pat 36 [(0, t0), (3, t3), (9, t9), (10, t10), (11, t11)], H, E⟩
noncomputable def Concat_byte_J11 (n : Nat) (t6 t25 t26 t27 : AV) (H : List AObj) (E : List Nat) : Option R3 :=
 loopK Try.prog C.G (EV C) (C.hint 29) Try.f29 (cAt (bodyOf Try.f29) [1, 1, 1, 1, 0, 1, 0, 0]) (kAt Try.prog C.G (EV C) (C.hint 29) Try.f29 (bodyOf Try.f29) [1, 1, 1, 1, 0, 1, 0] [] (endK Try.prog (C.hint 29) Try.f29 n))
 ⟨pat 36 [(6, t6), (25, t25), (26, t26), (27, t27)], H, E⟩
theorem Concat_byte_J3_of {r : R3} {n : Nat} {t0 t3 t9 t10 t11 : AV} {H : List AObj} {E : List Nat} (hh : (
 (binA .lss (Go.TypeDesc.int Go.IntKind.i64) (cmpT Try.prog) false t11 t10).bind fun a1 =>
 condK a1
 ((ixA 1 t9 t11 H).bind fun a2 =>
 (loadA false 1 a2 H).bind fun a3 =>
 (lenV a3 H).bind fun a4 =>
 (binA .add (Go.TypeDesc.int Go.IntKind.i64) (cmpT Try.prog) false t3 a4).bind fun a5 =>
 (binA .lss (Go.TypeDesc.int Go.IntKind.i64) (cmpT Try.prog) true a5 (.int .i64 0)).bind fun a6 =>
 condK a6
 (none)
 ((binA .add (Go.TypeDesc.int Go.IntKind.i64) (cmpT Try.prog) true t11 (.int .i64 1)).bind fun a7 =>
 Concat_byte_J3 n t0 a5 t9 t10 a7 H E))
 (callK (EV C) true n_Grow_byte [.nils, t3] H fun a8 H8 E8 =>
 (lenV t0 H8).bind fun a9 =>
 Concat_byte_J11 n a8 t0 a9 (.int .i64 0) H8 (E8 ++ E))) = some r) : Concat_byte_J3 n t0 t3 t9 t10 t11 H E = some r :=
 loop_step' (by kernel_rfl) hh
theorem Concat_byte_J11_of {r : R3} {n : Nat} {t6 t25 t26 t27 : AV} {H : List AObj} {E : List Nat} (hh : (
 (binA .lss (Go.TypeDesc.int Go.IntKind.i64) (cmpT Try.prog) false t27 t26).bind fun a1 =>
 condK a1
 ((ixA 1 t25 t27 H).bind fun a2 =>
 (loadA false 1 a2 H).bind fun a3 =>
 appK 1 1 t6 a3 H fun a4 H4 E4 =>
 (binA .add (Go.TypeDesc.int Go.IntKind.i64) (cmpT Try.prog) true t27 (.int .i64 1)).bind fun a5 =>
 Concat_byte_J11 n a4 t25 t26 a5 H4 ((E4 ++ []) ++ E))
 (endB false false n t6 H E)) = some r) : Concat_byte_J11 n t6 t25 t26 t27 H E = some r :=
 loop_step' (by kernel_rfl) hh
theorem Concat_byte_of {r : R3} {x0 : AV} {H : List AObj} (hh : (fun n => (
 (lenV x0 H).bind fun a1 =>
 Concat_byte_J3 n x0 (.int .i64 0) x0 a1 (.int .i64 0) H [])) (List.length H) = some r) : EV C n_Concat_byte [x0] H = some r :=
 EV_of_fnK' (fn := Try.f29) (by kernel_rfl) (by kernel_rfl) (by kernel_rfl) hh
theorem disk_Disk_step_of {r : R3} {x0 : AV} {H : List AObj} (hh : (fun n => (
 (nilA x0).bind fun a1 =>
 (offA a1 3).bind fun a2 =>
 (loadA false 1 a2 H).bind fun a3 =>
 (binA .add (Go.TypeDesc.int Go.IntKind.i64) (cmpT Try.prog) true a3 (.int .i64 1)).bind fun a4 =>
 (nilA x0).bind fun a5 =>
 (offA a5 3).bind fun a6 =>
 stoK 1 a6 a4 H fun H7 E7 =>
 (nilA x0).bind fun a8 =>
 (offA a8 4).bind fun a9 =>
 (loadA false 1 a9 H7).bind fun a10 =>
 (unA .not a10).bind fun a11 =>
 condK a11
 (endB false false n (.bool true) H7 (E7 ++ []))
 ((nilA x0).bind fun a12 =>
 (offA a12 5).bind fun a13 =>
 (loadA false 1 a13 H7).bind fun a14 =>
 (binA .eql (Go.TypeDesc.int Go.IntKind.i64) (cmpT Try.prog) true a14 (.int .i64 0)).bind fun a15 =>
 condK a15
 ((nilA x0).bind fun a16 =>
 (offA a16 2).bind fun a17 =>
 stoK 1 a17 (.bool true) H7 fun H18 E18 =>
 endB false false n (.bool false) H18 (E18 ++ (E7 ++ [])))
 ((nilA x0).bind fun a19 =>
 (offA a19 5).bind fun a20 =>
 (loadA false 1 a20 H7).bind fun a21 =>
 (binA .sub (Go.TypeDesc.int Go.IntKind.i64) (cmpT Try.prog) true a21 (.int .i64 1)).bind fun a22 =>
 (nilA x0).bind fun a23 =>
 (offA a23 5).bind fun a24 =>
 stoK 1 a24 a22 H7 fun H25 E25 =>
 endB false false n (.bool true) H25 (E25 ++ (E7 ++ [])))))) (List.length H) = some r) : EV C n_disk_Disk_step [x0] H = some r :=
 EV_of_fnK' (fn := Try.f30) (by kernel_rfl) (by kernel_rfl) (by kernel_rfl) hh
theorem disk_Disk_there_of {r : R3} {x0 x1 : AV} {H : List AObj} (hh : (fun n => (
 (nilA x0).bind fun a1 =>
 (offA a1 2).bind fun a2 =>
 (loadA false 1 a2 H).bind fun a3 =>
 condK a3
 (endB false false n (.ifc t_api_Code (.int .i64 10)) H [])
 ((nilA x0).bind fun a4 =>
 (offA a4 1).bind fun a5 =>
 (loadA false 1 a5 H).bind fun a6 =>
 (lookV (some Go.TypeDesc.string) (.agg [.nils, (.int .i64 0)]) true a6 x1 H).bind fun a7 =>
 (extA a7 0).bind fun a8 =>
 (extA a7 1).bind fun a9 =>
 newK (.agg [.nils, (.int .i64 0)]) H fun a10 H10 E10 =>
 stoK 2 a10 a8 H10 fun H11 E11 =>
 (unA .not a9).bind fun a12 =>
 condK a12
 (endB false false n (.ifc t_api_Code (.int .i64 9)) H11 (E11 ++ (E10 ++ [])))
 (endB false false n .nili H11 (E11 ++ (E10 ++ [])))))) (List.length H) = some r) : EV C n_disk_Disk_there [x0, x1] H = some r :=
 EV_of_fnK' (fn := Try.f31) (by kernel_rfl) (by kernel_rfl) (by kernel_rfl) hh
theorem Clone_byte_of {r : R3} {x0 : AV} {H : List AObj} (hh : (fun n => (
 (binA .eql (Go.TypeDesc.slice 5) (cmpT Try.prog) true x0 .nils).bind fun a1 =>
 condK a1
 (endB false false n .nils H [])
 ((appD 1 1 (AV.emp none) x0 H).bind fun a2 =>
 endB false false n a2 H []))) (List.length H) = some r) : EV C0 n_Clone_byte [x0] H = some r :=
 EV_of_fnK' (fn := Try.f32) (by kernel_rfl) (by kernel_rfl) (by kernel_rfl) hh
theorem disk_Disk_Names_of {r : R3} {x0 : AV} {H : List AObj} (hh : (fun n => (
 (nilA x0).bind fun a1 =>
 (offA a1 1).bind fun a2 =>
 (loadA false 1 a2 H).bind fun a3 =>
 callK (EV C) true n_maps_Keys_disk_file [a3] H fun a4 H4 E4 =>
 callK (EV C) false n_Sorted_string [a4] H4 fun a5 H5 E5 =>
 endB false false n a5 H5 (E5 ++ (E4 ++ [])))) (List.length H) = some r) : EV C n_disk_Disk_Names [x0] H = some r :=
 EV_of_fnK' (fn := Try.f33) (by kernel_rfl) (by kernel_rfl) (by kernel_rfl) hh
noncomputable def wal_Sum_J3 (n : Nat) (t3 t7 t8 t9 : AV) (H : List AObj) (E : List Nat) : Option R3 :=
 loopK Try.prog C.G (EV C) (C.hint 34) Try.f34 (cAt (bodyOf Try.f34) [1, 1, 0, 1, 0, 0]) (kAt Try.prog C.G (EV C) (C.hint 34) Try.f34 (bodyOf Try.f34) [1, 1, 0, 1, 0] [] (endK Try.prog (C.hint 34) Try.f34 n))
 ⟨pat 31 [(3, t3), (7, t7), (8, t8), (9, t9)], H, E⟩
noncomputable def wal_Sum_J7 (n : Nat) (Ha : List AObj) (Ea : List Nat) (t3 t7 t8 t9 t17 : AV) (H : List AObj) (E : List Nat) : Option R3 :=
 loopK Try.prog C.G (EV C) (C.hint 34) Try.f34 (cAt (bodyOf Try.f34) [1, 1, 0, 1, 0, 0, 1, 1, 0, 0, 1, 1, 1, 0, 0]) (kAt Try.prog C.G (EV C) (C.hint 34) Try.f34 (bodyOf Try.f34) [1, 1, 0, 1, 0, 0, 1, 1, 0, 0, 1, 1, 1, 0] [(Ha, Ea)] (endK Try.prog (C.hint 34) Try.f34 n))
 ⟨pat 31 [(3, t3), (7, t7), (8, t8), (9, t9), (17, t17)], H, E⟩
theorem wal_Sum_J3_of {r : R3} {n : Nat} {t3 t7 t8 t9 : AV} {H : List AObj} {E : List Nat} (hh : (
 (binA .lss (Go.TypeDesc.int Go.IntKind.i64) (cmpT Try.prog) false t9 t8).bind fun a1 =>
 condK a1
 ((ixA 1 t7 t9 H).bind fun a2 =>
 (loadA false 1 a2 H).bind fun a3 =>
 (cvI .u32 a3).bind fun a4 =>
 (binA .xor (Go.TypeDesc.int Go.IntKind.u32) (cmpT Try.prog) false t3 a4).bind fun a5 =>
 wal_Sum_J7 n H E a5 t7 t8 t9 (.int .i64 0) H [])
 ((unA .xor t3).bind fun a6 =>
 endB false false n a6 H E)) = some r) : wal_Sum_J3 n t3 t7 t8 t9 H E = some r :=
 loop_step' (by kernel_rfl) hh
theorem wal_Sum_J7_of {r : R3} {n : Nat} {Ha : List AObj} {Ea : List Nat} {t3 t7 t8 t9 t17 : AV} {H : List AObj} {E : List Nat} (hh : (
 (binA .lss (Go.TypeDesc.int Go.IntKind.i64) (cmpT Try.prog) true t17 (.int .i64 8)).bind fun a1 =>
 condK a1
 ((binA .and (Go.TypeDesc.int Go.IntKind.u32) (cmpT Try.prog) true t3 (.int .u32 1)).bind fun a2 =>
 (binA .shr (Go.TypeDesc.int Go.IntKind.u32) (cmpT Try.prog) true t3 (.int .u64 1)).bind fun a3 =>
 (binA .eql (Go.TypeDesc.int Go.IntKind.u32) (cmpT Try.prog) true a2 (.int .u32 1)).bind fun a4 =>
 condK a4
 ((binA .xor (Go.TypeDesc.int Go.IntKind.u32) (cmpT Try.prog) true a3 (.int .u32 2197175160)).bind fun a5 =>
 (binA .add (Go.TypeDesc.int Go.IntKind.i64) (cmpT Try.prog) true t17 (.int .i64 1)).bind fun a6 =>
 wal_Sum_J7 n Ha Ea a5 t7 t8 t9 a6 H E)
 ((binA .add (Go.TypeDesc.int Go.IntKind.i64) (cmpT Try.prog) true t17 (.int .i64 1)).bind fun a7 =>
 wal_Sum_J7 n Ha Ea a3 t7 t8 t9 a7 H E))
 ((binA .add (Go.TypeDesc.int Go.IntKind.i64) (cmpT Try.prog) true t9 (.int .i64 1)).bind fun a8 =>
 wal_Sum_J3 n t3 t7 t8 a8 H (E ++ Ea))) = some r) : wal_Sum_J7 n Ha Ea t3 t7 t8 t9 t17 H E = some r :=
 loop_step' (by kernel_rfl) hh
theorem wal_Sum_of {r : R3} {x0 : AV} {H : List AObj} (hh : (fun n => (
 (lenV x0 H).bind fun a1 =>
 wal_Sum_J3 n (.int .u32 4294967295) x0 a1 (.int .i64 0) H [])) (List.length H) = some r) : EV C n_wal_Sum [x0] H = some r :=
 EV_of_fnK' (fn := Try.f34) (by kernel_rfl) (by kernel_rfl) (by kernel_rfl) hh
theorem wal_Wal_clean_of {r : R3} {x0 : AV} {H : List AObj} (hh : (fun n => (
 (nilA x0).bind fun a1 =>
 (offA a1 0).bind fun a2 =>
 (loadA false 1 a2 H).bind fun a3 =>
 callK (EV C) false n_disk_Disk_Names [a3] H fun a4 H4 E4 =>
 callK (EV C) false n_Contains_string [a4, (.str { data := #[110, 101, 119] })] H4 fun a5 H5 E5 =>
 (unA .not a5).bind fun a6 =>
 condK a6
 (endB false false n .nili H5 (E5 ++ (E4 ++ [])))
 ((nilA x0).bind fun a7 =>
 (offA a7 0).bind fun a8 =>
 (loadA false 1 a8 H5).bind fun a9 =>
 callK (EV C) false n_disk_Disk_Remove [a9, (.str { data := #[110, 101, 119] })] H5 fun a10 H10 E10 =>
 endB false false n a10 H10 (E10 ++ (E5 ++ (E4 ++ [])))))) (List.length H) = some r) : EV C n_wal_Wal_clean [x0] H = some r :=
 EV_of_fnK' (fn := Try.f35) (by kernel_rfl) (by kernel_rfl) (by kernel_rfl) hh
end Go.Pm
namespace Go.Pm
open Go.Proofs
set_option linter.unusedVariables false
set_option maxRecDepth 100000
theorem wal_four_of {r : R3} {x0 : AV} {H : List AObj} (hh : (fun n => (
 (binA .shr (Go.TypeDesc.int Go.IntKind.u32) (cmpT Try.prog) true x0 (.int .u64 24)).bind fun a1 =>
 (cvI .u8 a1).bind fun a2 =>
 (binA .shr (Go.TypeDesc.int Go.IntKind.u32) (cmpT Try.prog) true x0 (.int .u64 16)).bind fun a3 =>
 (cvI .u8 a3).bind fun a4 =>
 (binA .shr (Go.TypeDesc.int Go.IntKind.u32) (cmpT Try.prog) true x0 (.int .u64 8)).bind fun a5 =>
 (cvI .u8 a5).bind fun a6 =>
 (cvI .u8 x0).bind fun a7 =>
 litK 1 4 (.int .u8 0) [(0, a2), (1, a4), (2, a6), (3, a7)] H fun a8 H8 E8 =>
 endB false false n a8 H8 (E8 ++ []))) (List.length H) = some r) : EV C n_wal_four [x0] H = some r :=
 EV_of_fnK' (fn := Try.f37) (by kernel_rfl) (by kernel_rfl) (by kernel_rfl) hh
theorem wal_check_of {r : R3} {x0 x1 : AV} {H : List AObj} (hh : (fun n => (
 litK 1 2 .nils [(0, x0), (1, x1)] H fun a1 H1 E1 =>
 callK (EV C) false n_Concat_byte [a1] H1 fun a2 H2 E2 =>
 callK (EV C) false n_wal_Sum [a2] H2 fun a3 H3 E3 =>
 endB false false n a3 H3 (E3 ++ (E2 ++ (E1 ++ []))))) (List.length H) = some r) : EV C n_wal_check [x0, x1] H = some r :=
 EV_of_fnK' (fn := Try.f38) (by kernel_rfl) (by kernel_rfl) (by kernel_rfl) hh
noncomputable def wal_frames_J3 (n : Nat) (t4 t9 t10 t11 : AV) (H : List AObj) (E : List Nat) : Option R3 :=
 loopK Try.prog C.G (EV C) (C.hint 39) Try.f39 (cAt (bodyOf Try.f39) [1, 1, 0, 1, 0, 0]) (kAt Try.prog C.G (EV C) (C.hint 39) Try.f39 (bodyOf Try.f39) [1, 1, 0, 1, 0] [] (endK Try.prog (C.hint 39) Try.f39 n))
 ⟨pat 28 [(4, t4), (9, t9), (10, t10), (11, t11)], H, E⟩
theorem wal_frames_J3_of {r : R3} {n : Nat} {t4 t9 t10 t11 : AV} {H : List AObj} {E : List Nat} (hh : (
 (binA .lss (Go.TypeDesc.int Go.IntKind.i64) (cmpT Try.prog) false t11 t10).bind fun a1 =>
 condK a1
 ((ixA 1 t9 t11 H).bind fun a2 =>
 (loadA false 1 a2 H).bind fun a3 =>
 callK (EV C) false n_wal_Frame [a3] H fun a4 H4 E4 =>
 (extA a4 0).bind fun a5 =>
 (extA a4 1).bind fun a6 =>
 (binA .neq (Go.TypeDesc.interface #[("Error", 123)]) (cmpT Try.prog) true a6 .nili).bind fun a7 =>
 condK a7
 (endB false false n (.tup [.nils, a6]) H4 ((E4 ++ []) ++ E))
 (appK 1 1 t4 a5 H4 fun a8 H8 E8 =>
 (binA .add (Go.TypeDesc.int Go.IntKind.i64) (cmpT Try.prog) true t11 (.int .i64 1)).bind fun a9 =>
 wal_frames_J3 n a8 t9 t10 a9 H8 ((E8 ++ (E4 ++ [])) ++ E)))
 (endB false false n (.tup [t4, .nili]) H E)) = some r) : wal_frames_J3 n t4 t9 t10 t11 H E = some r :=
 loop_step' (by kernel_rfl) hh
theorem wal_frames_of {r : R3} {x0 : AV} {H : List AObj} (hh : (fun n => (
 (lenV x0 (H ++ [.vrow])).bind fun a1 =>
 wal_frames_J3 n (.slc (List.length H) 0 0 0) x0 a1 (.int .i64 0) (H ++ [.vrow]) [])) (List.length H) = some r) : EV C n_wal_frames [x0] H = some r :=
 EV_of_fnK' (fn := Try.f39) (by kernel_rfl) (by kernel_rfl) (by kernel_rfl) hh
theorem disk_Disk_Rename_of {r : R3} {x0 x1 x2 : AV} {H : List AObj} (hh : (fun n => (
 (nilA x0).bind fun a1 =>
 (offA a1 2).bind fun a2 =>
 (loadA false 1 a2 H).bind fun a3 =>
 (unA .not a3).bind fun a4 =>
 splitK a4
 (callK (EV C) false n_disk_named [x2] H fun a5 H5 E5 =>
 (unA .not a5).bind fun a6 =>
 condK a6
 (endB false false n (.ifc t_api_Code (.int .i64 1)) H5 (E5 ++ []))
 (callK (EV C) false n_disk_Disk_there [x0, x1] H5 fun a7 H7 E7 =>
 (binA .neq (Go.TypeDesc.interface #[("Error", 123)]) (cmpT Try.prog) true a7 .nili).bind fun a8 =>
 condK a8
 (endB false false n a7 H7 (E7 ++ (E5 ++ [])))
 (callK (EV C) false n_disk_Disk_step [x0] H7 fun a9 H9 E9 =>
 (unA .not a9).bind fun a10 =>
 condK a10
 (endB false false n (.ifc t_api_Code (.int .i64 10)) H9 (E9 ++ (E7 ++ (E5 ++ []))))
 ((nilA x0).bind fun a11 =>
 (offA a11 1).bind fun a12 =>
 (loadA false 1 a12 H9).bind fun a13 =>
 (lookV (some Go.TypeDesc.string) (.agg [.nils, (.int .i64 0)]) false a13 x1 H9).bind fun a14 =>
 newK (.agg [.nils, (.int .i64 0)]) H9 fun a15 H15 E15 =>
 stoK 2 a15 a14 H15 fun H16 E16 =>
 (nilA x0).bind fun a17 =>
 (offA a17 1).bind fun a18 =>
 (loadA false 1 a18 H16).bind fun a19 =>
 delK (some Go.TypeDesc.string) a19 x1 H16 fun H20 =>
 (nilA x0).bind fun a21 =>
 (offA a21 1).bind fun a22 =>
 (loadA false 1 a22 H20).bind fun a23 =>
 (loadA true 2 a15 H20).bind fun a24 =>
 updK (some Go.TypeDesc.string) a23 x2 a24 H20 fun H25 =>
 endB false false n .nili H25 (E16 ++ (E15 ++ (E9 ++ (E7 ++ (E5 ++ [])))))))))
 (callK (EV C) false n_disk_Disk_there [x0, x1] H fun a26 H26 E26 =>
 (binA .neq (Go.TypeDesc.interface #[("Error", 123)]) (cmpT Try.prog) true a26 .nili).bind fun a27 =>
 condK a27
 (endB false false n a26 H26 (E26 ++ []))
 (callK (EV C) false n_disk_Disk_step [x0] H26 fun a28 H28 E28 =>
 (unA .not a28).bind fun a29 =>
 condK a29
 (endB false false n (.ifc t_api_Code (.int .i64 10)) H28 (E28 ++ (E26 ++ [])))
 ((nilA x0).bind fun a30 =>
 (offA a30 1).bind fun a31 =>
 (loadA false 1 a31 H28).bind fun a32 =>
 (lookV (some Go.TypeDesc.string) (.agg [.nils, (.int .i64 0)]) false a32 x1 H28).bind fun a33 =>
 newK (.agg [.nils, (.int .i64 0)]) H28 fun a34 H34 E34 =>
 stoK 2 a34 a33 H34 fun H35 E35 =>
 (nilA x0).bind fun a36 =>
 (offA a36 1).bind fun a37 =>
 (loadA false 1 a37 H35).bind fun a38 =>
 delK (some Go.TypeDesc.string) a38 x1 H35 fun H39 =>
 (nilA x0).bind fun a40 =>
 (offA a40 1).bind fun a41 =>
 (loadA false 1 a41 H39).bind fun a42 =>
 (loadA true 2 a34 H39).bind fun a43 =>
 updK (some Go.TypeDesc.string) a42 x2 a43 H39 fun H44 =>
 endB false false n .nili H44 (E35 ++ (E34 ++ (E28 ++ (E26 ++ []))))))))) (List.length H) = some r) : EV C n_disk_Disk_Rename [x0, x1, x2] H = some r :=
 EV_of_fnK' (fn := Try.f40) (by kernel_rfl) (by kernel_rfl) (by kernel_rfl) hh
theorem wal_number_of {r : R3} {x0 : AV} {H : List AObj} (hh : (fun n => (
 (ixA 1 x0 (.int .i64 0) H).bind fun a1 =>
 (loadA false 1 a1 H).bind fun a2 =>
 (cvI .u32 a2).bind fun a3 =>
 (binA .shl (Go.TypeDesc.int Go.IntKind.u32) (cmpT Try.prog) true a3 (.int .u64 24)).bind fun a4 =>
 (ixA 1 x0 (.int .i64 1) H).bind fun a5 =>
 (loadA false 1 a5 H).bind fun a6 =>
 (cvI .u32 a6).bind fun a7 =>
 (binA .shl (Go.TypeDesc.int Go.IntKind.u32) (cmpT Try.prog) true a7 (.int .u64 16)).bind fun a8 =>
 (binA .or (Go.TypeDesc.int Go.IntKind.u32) (cmpT Try.prog) false a4 a8).bind fun a9 =>
 (ixA 1 x0 (.int .i64 2) H).bind fun a10 =>
 (loadA false 1 a10 H).bind fun a11 =>
 (cvI .u32 a11).bind fun a12 =>
 (binA .shl (Go.TypeDesc.int Go.IntKind.u32) (cmpT Try.prog) true a12 (.int .u64 8)).bind fun a13 =>
 (binA .or (Go.TypeDesc.int Go.IntKind.u32) (cmpT Try.prog) false a9 a13).bind fun a14 =>
 (ixA 1 x0 (.int .i64 3) H).bind fun a15 =>
 (loadA false 1 a15 H).bind fun a16 =>
 (cvI .u32 a16).bind fun a17 =>
 (binA .or (Go.TypeDesc.int Go.IntKind.u32) (cmpT Try.prog) false a14 a17).bind fun a18 =>
 endB false false n a18 H [])) (List.length H) = some r) : EV C n_wal_number [x0] H = some r :=
 EV_of_fnK' (fn := Try.f41) (by kernel_rfl) (by kernel_rfl) (by kernel_rfl) hh
theorem Grow_byte_of {r : R3} {x0 x1 : AV} {H : List AObj} (hh : (fun n => (
 (binA .lss (Go.TypeDesc.int Go.IntKind.i64) (cmpT Try.prog) true x1 (.int .i64 0)).bind fun a1 =>
 condK a1
 (none)
 ((capA x0).bind fun a2 =>
 (lenV x0 H).bind fun a3 =>
 (binA .sub (Go.TypeDesc.int Go.IntKind.i64) (cmpT Try.prog) false a2 a3).bind fun a4 =>
 (binA .sub (Go.TypeDesc.int Go.IntKind.i64) (cmpT Try.prog) false x1 a4).bind fun a5 =>
 (binA .gtr (Go.TypeDesc.int Go.IntKind.i64) (cmpT Try.prog) true a5 (.int .i64 0)).bind fun a6 =>
 condK a6
 ((capA x0).bind fun a7 =>
 (cutA 1 x0 none (some a7) none H).bind fun a8 =>
 zapK 1 1 (.int .u8 0) a8 a5 H fun a9 H9 E9 =>
 (lenV x0 H9).bind fun a10 =>
 (cutA 1 a9 none (some a10) none H9).bind fun a11 =>
 trmK a11 H9 [] fun a12 H12 E12 =>
 endB true true n a12 H12 (E12 ++ (E9 ++ [])))
 (endB true true n x0 H [])))) (List.length H) = some r) : EV C n_Grow_byte [x0, x1] H = some r :=
 EV_of_fnK' (fn := Try.f42) (by kernel_rfl) (by kernel_rfl) (by kernel_rfl) hh
theorem maps_Keys_disk_file_of {r : R3} {x0 : AV} {H : List AObj} (hh : (fun n => (
 newK x0 H fun a1 H1 E1 =>
 endB true true n (.clo n_maps_Keys_map_string_disk_file_string_disk_file_1 [] [a1]) H1 (E1 ++ []))) (List.length H) = some r) : EV C n_maps_Keys_disk_file [x0] H = some r :=
 EV_of_fnK' (fn := Try.f44) (by kernel_rfl) (by kernel_rfl) (by kernel_rfl) hh
theorem Contains_string_of {r : R3} {x0 x1 : AV} {H : List AObj} (hh : (fun n => (
 callK (EV C) false n_Index_string [x0, x1] H fun a1 H1 E1 =>
 (binA .geq (Go.TypeDesc.int Go.IntKind.i64) (cmpT Try.prog) true a1 (.int .i64 0)).bind fun a2 =>
 endB false false n a2 H1 (E1 ++ []))) (List.length H) = some r) : EV C n_Contains_string [x0, x1] H = some r :=
 EV_of_fnK' (fn := Try.f45) (by kernel_rfl) (by kernel_rfl) (by kernel_rfl) hh
end Go.Pm
namespace Go.Pm
open Go.Proofs
set_option linter.unusedVariables false
set_option maxRecDepth 100000
theorem disk_Disk_Remove_of {r : R3} {x0 x1 : AV} {H : List AObj} (hh : (fun n => (
 callK (EV C) false n_disk_Disk_there [x0, x1] H fun a1 H1 E1 =>
 (binA .neq (Go.TypeDesc.interface #[("Error", 123)]) (cmpT Try.prog) true a1 .nili).bind fun a2 =>
 condK a2
 (endB false false n a1 H1 (E1 ++ []))
 (callK (EV C) false n_disk_Disk_step [x0] H1 fun a3 H3 E3 =>
 (unA .not a3).bind fun a4 =>
 condK a4
 (endB false false n (.ifc t_api_Code (.int .i64 10)) H3 (E3 ++ (E1 ++ [])))
 ((nilA x0).bind fun a5 =>
 (offA a5 1).bind fun a6 =>
 (loadA false 1 a6 H3).bind fun a7 =>
 delK (some Go.TypeDesc.string) a7 x1 H3 fun H8 =>
 endB false false n .nili H8 (E3 ++ (E1 ++ [])))))) (List.length H) = some r) : EV C n_disk_Disk_Remove [x0, x1] H = some r :=
 EV_of_fnK' (fn := Try.f46) (by kernel_rfl) (by kernel_rfl) (by kernel_rfl) hh
noncomputable def Index_string_J2 (n : Nat) (t0 t1 t7 t8 : AV) (H : List AObj) (E : List Nat) : Option R3 :=
 loopK Try.prog C.G (EV C) (C.hint 52) Try.f52 (cAt (bodyOf Try.f52) [1, 0, 1, 0, 0]) (kAt Try.prog C.G (EV C) (C.hint 52) Try.f52 (bodyOf Try.f52) [1, 0, 1, 0] [] (endK Try.prog (C.hint 52) Try.f52 n))
 ⟨pat 19 [(0, t0), (1, t1), (7, t7), (8, t8)], H, E⟩
theorem Index_string_J2_of {r : R3} {n : Nat} {t0 t1 t7 t8 : AV} {H : List AObj} {E : List Nat} (hh : (
 (binA .lss (Go.TypeDesc.int Go.IntKind.i64) (cmpT Try.prog) false t8 t7).bind fun a1 =>
 condK a1
 ((ixA 1 t0 t8 H).bind fun a2 =>
 (loadA false 1 a2 H).bind fun a3 =>
 (binA .eql Go.TypeDesc.string (cmpT Try.prog) false t1 a3).bind fun a4 =>
 condK a4
 (endB false false n t8 H E)
 ((binA .add (Go.TypeDesc.int Go.IntKind.i64) (cmpT Try.prog) true t8 (.int .i64 1)).bind fun a5 =>
 Index_string_J2 n t0 t1 t7 a5 H E))
 (endB false false n (.int .i64 (-1)) H E)) = some r) : Index_string_J2 n t0 t1 t7 t8 H E = some r :=
 loop_step' (by kernel_rfl) hh
theorem Index_string_of {r : R3} {x0 x1 : AV} {H : List AObj} (hh : (fun n => (
 (lenV x0 H).bind fun a1 =>
 Index_string_J2 n x0 x1 a1 (.int .i64 0) H [])) (List.length H) = some r) : EV C n_Index_string [x0, x1] H = some r :=
 EV_of_fnK' (fn := Try.f52) (by kernel_rfl) (by kernel_rfl) (by kernel_rfl) hh
end Go.Pm
namespace Go.Pm
open Go.Proofs
set_option linter.unusedVariables false
set_option linter.unusedSimpArgs false
def stepN (c : Nat) : Nat := if c % 2 = 1 then (c / 2) ^^^ 2197175160 else c / 2
def stepsN : Nat → Nat → Nat
  | 0, c => c
  | n + 1, c => stepsN n (stepN c)
def crcL : List UInt8 → Nat → Nat
  | [], c => c
  | b :: l, c => crcL l (stepsN 8 (c ^^^ b.toNat))
def crc (l : List UInt8) : Nat := crcL l 4294967295 ^^^ 4294967295
theorem stepN_lt {c : Nat} (h : c < 2^32) : stepN c < 2^32 := by
  unfold stepN
  split
  · exact Nat.xor_lt_two_pow (by omega) (by decide)
  · omega
theorem stepsN_lt : ∀ (n : Nat) {c : Nat}, c < 2^32 → stepsN n c < 2^32
  | 0, c, h => h
  | n + 1, c, h => stepsN_lt n (stepN_lt h)
theorem u8_lt (b : UInt8) : b.toNat < 2^32 := by have := b.toNat_lt; omega
theorem byte_lt {c : Nat} (b : UInt8) (h : c < 2^32) : c ^^^ b.toNat < 2^32 := Nat.xor_lt_two_pow h (u8_lt b)
theorem crcL_lt : ∀ (l : List UInt8) {c : Nat}, c < 2^32 → crcL l c < 2^32
  | [], c, h => h
  | b :: l, c, h => crcL_lt l (stepsN_lt 8 (byte_lt b h))
theorem crc_lt (l : List UInt8) : crc l < 2^32 := Nat.xor_lt_two_pow (crcL_lt l (by decide)) (by decide)

theorem wal_bits {r : R3} {n : Nat} {Ha H : List AObj} {Ea E : List Nat} {t7 t8 t9 : AV} : ∀ (m : Nat) (c : Nat), c < 2^32 → m ≤ 8 →
    (binA .add (Go.TypeDesc.int Go.IntKind.i64) (cmpT Try.prog) true t9 (.int .i64 1)).bind (fun a => wal_Sum_J3 n (.int .u32 (stepsN m c : Nat)) t7 t8 a H (E ++ Ea)) = some r →
    wal_Sum_J7 n Ha Ea (.int .u32 (c : Nat)) t7 t8 t9 (.int .i64 (8 - m : Int)) H E = some r
  | 0, c, hc, _, h => by
    refine wal_Sum_J7_of ?_
    simpa [stepsN] using h
  | m + 1, c, hc, hm, h => by
    refine wal_Sum_J7_of ?_
    have e1 : ((8 : Int) - ((m + 1 : Nat) : Int) < 8) := by omega
    have e2 : IntKind.i64.wrap ((8 : Int) - ((m + 1 : Nat) : Int) + 1) = 8 - (m : Int) := by rw [wrap64] <;> omega
    have ih := wal_bits (r := r) (n := n) (Ha := Ha) (H := H) (Ea := Ea) (E := E) (t7 := t7) (t8 := t8) (t9 := t9) m (stepN c) (stepN_lt hc) (by omega) h
    have e3 : bitsA .and .u32 (c : Int) 1 = ((c % 2 : Nat) : Int) := by
      have := and_u32 hc (show 1 < 2^32 by decide); rw [Nat.and_one_is_mod] at this; exact this
    have e4 : bitsA .xor .u32 ((c / 2 : Nat) : Int) 2197175160 = ((c / 2 ^^^ 2197175160 : Nat) : Int) := xor_u32 (show c / 2 < 2^32 by omega) (show 2197175160 < 2^32 by decide)
    have e5 : binA .shr (.int .u32) (cmpT Try.prog) true (.int .u32 (c : Int)) (.int .u64 1) = some (.int .u32 ((c / 2 : Nat) : Int)) := by
      have := shr_nat (.int .u32) (cmpT Try.prog) true .u32 .u64 c 1 (by decide); rw [Nat.pow_one] at this; exact this
    simp only [lss_int, Option.bind_some, e1, decide_true, condK_t, and_int, e3, e5, eql_int, condK_dec, add_int, e2, xor_int, e4]
    unfold stepN at ih
    split
    · rename_i hb
      rw [if_pos (by omega)] at ih
      exact ih
    · rename_i hb
      rw [if_neg (by omega)] at ih
      exact ih
theorem wal_sum_loop (l : List UInt8) (hl : l.length < 2^62) : ∀ (m i : Nat) (c : Nat), c < 2^32 → i + m = l.length →
    wal_Sum_J3 0 (.int .u32 (c : Nat)) (bys l) (.int .i64 l.length) (.int .i64 i) [] [] = some (.int .u32 ((crcL (l.drop i) c ^^^ 4294967295 : Nat) : Int), [], [])
  | 0, i, c, hc, h => by
    refine wal_Sum_J3_of ?_
    have e1 : ¬ ((i : Int) < (l.length : Int)) := by omega
    have e2 : l.drop i = [] := List.drop_eq_nil_of_le (by omega)
    have e3 : bitsA .xor .u32 IntKind.u32.max (c : Int) = ((c ^^^ 4294967295 : Nat) : Int) := by
      rw [Nat.xor_comm]; exact xor_u32 (show 4294967295 < 2^32 by decide) hc
    simp only [lss_int, Option.bind_some, e1, decide_false, condK_f, e2, crcL]
    rw [show unA .xor (.int .u32 (c : Int)) = some (.int .u32 (bitsA .xor .u32 IntKind.u32.max (c : Int))) from rfl, e3]
    exact endB_good rfl
  | m + 1, i, c, hc, h => by
    refine wal_Sum_J3_of ?_
    have hi : i < l.length := by omega
    have e1 : ((i : Int) < (l.length : Int)) := by omega
    have e2 : l.drop i = l[i] :: l.drop (i + 1) := List.drop_eq_getElem_cons hi
    have e3 : IntKind.i64.wrap ((i : Int) + 1) = ((i + 1 : Nat) : Int) := by rw [wrap64] <;> omega
    have e4 := xor_u32 hc (u8_lt l[i])
    simp only [lss_int, Option.bind_some, e1, decide_true, condK_t, e2, crcL, ixA_bys (List.getElem?_eq_getElem hi), loadA_ip1, u8, cvI_int, xor_int, wrap_u32 (u8_lt l[i]), e4]
    exact wal_bits (n := 0) (Ha := []) (H := []) (Ea := []) (E := []) (t7 := bys l) (t8 := .int .i64 l.length) (t9 := .int .i64 i) 8 (c ^^^ l[i].toNat) (byte_lt _ hc) (by omega) (by
      simp only [add_int, Option.bind_some, e3]
      exact wal_sum_loop l hl m (i + 1) _ (stepsN_lt 8 (byte_lt _ hc)) (by omega))
theorem wal_Sum_ok (l : List UInt8) (hl : l.length < 2^62) : EV C n_wal_Sum [bys l] [] = some (.int .u32 (crc l), [], []) := by
  refine wal_Sum_of ?_
  simp only [lenV_bys, Option.bind_some]
  exact wal_sum_loop l hl l.length 0 4294967295 (by decide) (by omega)

end Go.Pm
namespace Go.Pm
open Go.Proofs
set_option linter.unusedVariables false
set_option linter.unusedSimpArgs false
def numL : List UInt8 → Nat
  | a :: b :: c :: d :: _ => a.toNat * 2^24 + b.toNat * 2^16 + c.toNat * 2^8 + d.toNat
  | _ => 0
def fourL (v : Nat) : List UInt8 := [UInt8.ofNat (v / 2^24), UInt8.ofNat (v / 2^16), UInt8.ofNat (v / 2^8), UInt8.ofNat v]
theorem numL_lt (l : List UInt8) : numL l < 2^32 := by
  unfold numL
  split
  · rename_i a b c d _
    have := a.toNat_lt; have := b.toNat_lt; have := c.toNat_lt; have := d.toNat_lt
    omega
  · decide
theorem or_add {a b i : Nat} (h : b < 2^i) : a * 2^i ||| b = a * 2^i + b := by
  rw [Nat.mul_comm, ← Nat.two_pow_add_eq_or_of_lt h]
theorem ix0 (a : UInt8) (l : List UInt8) (H : List AObj) : ixA 1 (bys (a :: l)) (.int .i64 0) H = some (.ip [u8 a]) := ixA_bys (i := 0) rfl
theorem ix1 (a b : UInt8) (l : List UInt8) (H : List AObj) : ixA 1 (bys (a :: b :: l)) (.int .i64 1) H = some (.ip [u8 b]) := ixA_bys (i := 1) rfl
theorem ix2 (a b c : UInt8) (l : List UInt8) (H : List AObj) : ixA 1 (bys (a :: b :: c :: l)) (.int .i64 2) H = some (.ip [u8 c]) := ixA_bys (i := 2) rfl
theorem ix3 (a b c d : UInt8) (l : List UInt8) (H : List AObj) : ixA 1 (bys (a :: b :: c :: d :: l)) (.int .i64 3) H = some (.ip [u8 d]) := ixA_bys (i := 3) rfl
theorem shl32 {x s : Nat} (h : x * 2^s < 2^32) (h1 : s ≤ 32) : binA .shl (.int .u32) (cmpT Try.prog) true (.int .u32 (x : Int)) (.int .u64 (s : Int)) = some (.int .u32 ((x * 2^s : Nat) : Int)) := by
  rw [shl_nat _ _ _ _ _ _ _ h1, wrap_u32 h]
theorem wal_number_ok (l : List UInt8) (hl : 4 ≤ l.length) : EV C n_wal_number [bys l] [] = some (.int .u32 (numL l), [], []) := by
  rcases l with _ | ⟨a, _ | ⟨b, _ | ⟨c, _ | ⟨d, t⟩⟩⟩⟩ <;> try (simp at hl; done)
  refine wal_number_of ?_
  have ha := a.toNat_lt; have hb := b.toNat_lt; have hc := c.toNat_lt; have hd := d.toNat_lt
  have s1 := shl32 (x := a.toNat) (s := 24) (by omega) (by decide)
  have s2 := shl32 (x := b.toNat) (s := 16) (by omega) (by decide)
  have s3 := shl32 (x := c.toNat) (s := 8) (by omega) (by decide)
  have o1 : bitsA .or .u32 ((a.toNat * 2^24 : Nat) : Int) ((b.toNat * 2^16 : Nat) : Int) = ((a.toNat * 2^24 + b.toNat * 2^16 : Nat) : Int) := by
    rw [or_u32 (by omega) (by omega), or_add (by omega)]
  have o2 : bitsA .or .u32 ((a.toNat * 2^24 + b.toNat * 2^16 : Nat) : Int) ((c.toNat * 2^8 : Nat) : Int) = ((a.toNat * 2^24 + b.toNat * 2^16 + c.toNat * 2^8 : Nat) : Int) := by
    rw [or_u32 (by omega) (by omega), show a.toNat * 2^24 + b.toNat * 2^16 = (a.toNat * 2^8 + b.toNat) * 2^16 by omega, or_add (by omega)]
  have o3 : bitsA .or .u32 ((a.toNat * 2^24 + b.toNat * 2^16 + c.toNat * 2^8 : Nat) : Int) (d.toNat : Int) = ((a.toNat * 2^24 + b.toNat * 2^16 + c.toNat * 2^8 + d.toNat : Nat) : Int) := by
    rw [or_u32 (by omega) (by omega), show a.toNat * 2^24 + b.toNat * 2^16 + c.toNat * 2^8 = (a.toNat * 2^16 + b.toNat * 2^8 + c.toNat) * 2^8 by omega, or_add (by omega)]
  simp only [ix0, ix1, ix2, ix3, Option.bind_some, loadA_ip1, u8, cvI_int, wrap_u32 (u8_lt a), wrap_u32 (u8_lt b), wrap_u32 (u8_lt c), wrap_u32 (u8_lt d)]
  rw [show (.int .u64 24 : AV) = .int .u64 ((24 : Nat) : Int) from rfl, show (.int .u64 16 : AV) = .int .u64 ((16 : Nat) : Int) from rfl, show (.int .u64 8 : AV) = .int .u64 ((8 : Nat) : Int) from rfl, s1, s2, s3]
  simp only [Option.bind_some, or_int, o1, o2, o3]
  exact endB_good rfl
theorem wal_four_ok (v : Nat) (hv : v < 2^32) : EV C n_wal_four [.int .u32 v] [] = some (bys (fourL v), [], []) := by
  refine wal_four_of ?_
  have s1 := shr_nat (.int .u32) (cmpT Try.prog) true .u32 .u64 v 24 (by decide)
  have s2 := shr_nat (.int .u32) (cmpT Try.prog) true .u32 .u64 v 16 (by decide)
  have s3 := shr_nat (.int .u32) (cmpT Try.prog) true .u32 .u64 v 8 (by decide)
  rw [show (.int .u64 24 : AV) = .int .u64 ((24 : Nat) : Int) from rfl, show (.int .u64 16 : AV) = .int .u64 ((16 : Nat) : Int) from rfl, show (.int .u64 8 : AV) = .int .u64 ((8 : Nat) : Int) from rfl, s1, s2, s3]
  simp only [Option.bind_some, cvI_int, wrap_u8]
  rw [← u8_nat, ← u8_nat, ← u8_nat, ← u8_nat]
  show endB false false 0 (bys (fourL v)) [] [] = _
  exact endB_good (good_bys _)
theorem ixA_map {α : Type} {f : α → AV} (hf : ∀ a, (f a).cells = [f a]) {l : List α} {k : IntKind} {i : Nat} {a : α} {H : List AObj} (h : l[i]? = some a) : ixA 1 (.lst (l.map f)) (.int k i) H = some (.ip [f a]) := by
  rw [ixA_lst (e := f a) (by omega) (by simp [h]) (by simp [hf]), hf]
theorem Grow_byte_ok (n : Nat) (h0 : 0 < n) (h1 : n ≤ 2^46) (H : List AObj) : EV C n_Grow_byte [.nils, .int .i64 n] H = some (.slc (H.length + 1) 0 0 0, H ++ [.dead, .row 1 []], []) := by
  refine Grow_byte_of ?_
  have e0 : ¬ ((n : Int) < 0) := by omega
  have e1 : (0 : Int) < (n : Int) := by omega
  have w0 : IntKind.i64.wrap ((0 : Int) - 0) = 0 := by decide
  have w1 : IntKind.i64.wrap ((n : Int) - 0) = n := by rw [wrap64] <;> omega
  have l0 : ∀ H, lenV .nils H = some (.int .i64 0) := fun H => rfl
  have c1 : cutA 1 .nils none (some (.int .i64 0)) none H = some .nils := rfl
  simp only [lss_int, Option.bind_some, e0, decide_false, condK_f, capA, l0, sub_int, w0, w1, gtr_int, e1, decide_true, condK_t, c1]
  have z1 : appZ 1 1 (.int .u8 0) .nils (.int .i64 n) H = some (.slc H.length 0 n n, H ++ [.row 1 (List.replicate n (.int .u8 0))], []) := by
    have : (n : Int) ≤ 140737489400832 := by omega
    simp [appZ, e1, this, AV.cells, AV.one]
    omega
  simp only [zapK, z1, Option.bind_some, l0]
  have c2 : cutA 1 (.slc H.length 0 n n) none (some (.int .i64 0)) none (H ++ [.row 1 (List.replicate n (.int .u8 0))]) = some (.slc H.length 0 0 n) := by
    simp [cutA, lenA, lenOf, boundA]
  simp only [c2, Option.bind_some, trmK, trimA]
  simp [endB_raw]
theorem grow0 (H : List AObj) : EV C n_Grow_byte [.nils, .int .i64 ((0 : Nat) : Int)] H = some (.nils, H, []) := by
  show EV C n_Grow_byte [.nils, .int .i64 0] H = _
  refine Grow_byte_of ?_
  have w0 : IntKind.i64.wrap ((0 : Int) - 0) = 0 := by decide
  have l0 : ∀ H, lenV .nils H = some (.int .i64 0) := fun H => rfl
  simp only [lss_int, Option.bind_some, Int.lt_irrefl, decide_false, condK_f, capA, l0, sub_int, w0, gtr_int]
  exact endB_raw
theorem take_flat {ls : List (List UInt8)} {i : Nat} (h : i < ls.length) : (ls.take (i + 1)).flatten = (ls.take i).flatten ++ ls[i] := by
  rw [List.take_add_one, List.getElem?_eq_getElem h, List.flatten_append]; simp only [Option.toList, List.flatten_cons, List.flatten_nil, List.append_nil]
theorem flat_le {ls : List (List UInt8)} {i : Nat} : (ls.take i).flatten.length ≤ ls.flatten.length := by
  conv => rhs; rw [← List.take_append_drop i ls]
  rw [List.flatten_append, List.length_append]; omega
theorem concat_rows {ls : List (List UInt8)} (hl : ls.length < 2^62) (ht : ls.flatten.length ≤ 2^46) : ∀ (m i : Nat) (E : List Nat), i + m = ls.length →
    Concat_byte_J11 0 (.slc 1 0 (ls.take i).flatten.length (ls.take i).flatten.length) (.lst (ls.map bys)) (.int .i64 ls.length) (.int .i64 i) [.dead, .row 1 ((ls.take i).flatten.map u8)] E = some (bys ls.flatten, [], [])
  | 0, i, E, h => by
    refine Concat_byte_J11_of ?_
    have e1 : ¬ ((i : Int) < (ls.length : Int)) := by omega
    simp only [lss_int, Option.bind_some, e1, decide_false, condK_f]
    have e2 : ls.take i = ls := List.take_of_length_le (by omega)
    rw [e2]
    exact endB_frz (frz_row (z := 1) rfl (List.length_map _).symm (goodL_u8 _)) (good_bys _)
  | m + 1, i, E, h => by
    refine Concat_byte_J11_of ?_
    have hi : i < ls.length := by omega
    have e1 : ((i : Int) < (ls.length : Int)) := by omega
    have e3 : IntKind.i64.wrap ((i : Int) + 1) = ((i + 1 : Nat) : Int) := by rw [wrap64] <;> omega
    have hf := flat_le (ls := ls) (i := i + 1)
    have ht' := take_flat hi
    rw [ht', List.length_append] at hf
    simp only [lss_int, Option.bind_some, e1, decide_true, condK_t, ixA_map (f := bys) (fun _ => rfl) (List.getElem?_eq_getElem hi), loadA_ip1]
    rw [appK_row (es := (ls.take i).flatten.map u8) (ys := ls[i].map u8) rfl rfl (List.length_map _).symm (lz_u8 _) (by decide) (by decide) (by decide) (by rw [List.length_map]; omega), esc_good (goodL_u8 _)]
    simp only [add_int, Option.bind_some, e3]
    have := concat_rows hl ht m (i + 1) (([] ++ []) ++ E) (by omega)
    rw [ht', List.map_append, List.length_append] at this
    rw [List.length_map]
    exact this
theorem concat_nils {ls : List (List UInt8)} (hl : ls.length < 2^62) (ht : ls.flatten = []) : ∀ (m i : Nat) (E : List Nat), i + m = ls.length →
    Concat_byte_J11 0 .nils (.lst (ls.map bys)) (.int .i64 ls.length) (.int .i64 i) [] E = some (bys [], [], [])
  | 0, i, E, h => by
    refine Concat_byte_J11_of ?_
    have e1 : ¬ ((i : Int) < (ls.length : Int)) := by omega
    simp only [lss_int, Option.bind_some, e1, decide_false, condK_f]
    exact endB_frz rfl (by simp)
  | m + 1, i, E, h => by
    refine Concat_byte_J11_of ?_
    have hi : i < ls.length := by omega
    have e1 : ((i : Int) < (ls.length : Int)) := by omega
    have e3 : IntKind.i64.wrap ((i : Int) + 1) = ((i + 1 : Nat) : Int) := by rw [wrap64] <;> omega
    have e4 : ls[i] = [] := by
      have := List.flatten_eq_nil_iff.1 ht ls[i] (List.getElem_mem hi)
      exact this
    simp only [lss_int, Option.bind_some, e1, decide_true, condK_t, ixA_map (f := bys) (fun _ => rfl) (List.getElem?_eq_getElem hi), loadA_ip1, e4]
    have e5 : ∀ (K : AV → List AObj → List Nat → Option R3), appK 1 1 .nils (bys []) [] K = K .nils [] [] := fun K => rfl
    rw [e5]
    simp only [add_int, Option.bind_some, e3]
    exact concat_nils hl ht m (i + 1) _ (by omega)
theorem concat_sum {ls : List (List UInt8)} (hl : ls.length < 2^62) (ht : ls.flatten.length ≤ 2^46) : ∀ (m i : Nat), i + m = ls.length →
    Concat_byte_J3 0 (.lst (ls.map bys)) (.int .i64 (ls.take i).flatten.length) (.lst (ls.map bys)) (.int .i64 ls.length) (.int .i64 i) [] [] = some (bys ls.flatten, [], [])
  | 0, i, h => by
    refine Concat_byte_J3_of ?_
    have e1 : ¬ ((i : Int) < (ls.length : Int)) := by omega
    simp only [lss_int, Option.bind_some, e1, decide_false, condK_f]
    have e2 : ls.take i = ls := List.take_of_length_le (by omega)
    rw [e2]
    have hlen : ∀ H, lenV (.lst (ls.map bys)) H = some (.int .i64 ls.length) := fun H => by simp
    rcases Nat.eq_zero_or_pos ls.flatten.length with h0 | h0
    · rw [h0, callK_raw (grow0 [])]
      simp only [hlen, Option.bind_some]
      rw [List.length_eq_zero_iff.1 h0]
      exact concat_nils hl (List.length_eq_zero_iff.1 h0) ls.length 0 _ (by omega)
    · rw [callK_raw (Grow_byte_ok _ h0 ht [])]
      simp only [hlen, Option.bind_some]
      exact concat_rows hl ht ls.length 0 _ (by omega)
  | m + 1, i, h => by
    refine Concat_byte_J3_of ?_
    have hi : i < ls.length := by omega
    have e1 : ((i : Int) < (ls.length : Int)) := by omega
    have e3 : IntKind.i64.wrap ((i : Int) + 1) = ((i + 1 : Nat) : Int) := by rw [wrap64] <;> omega
    have hf := flat_le (ls := ls) (i := i + 1)
    have ht' := take_flat hi
    have e4 : IntKind.i64.wrap (((ls.take i).flatten.length : Int) + (ls[i].length : Int)) = ((ls.take (i + 1)).flatten.length : Int) := by
      rw [ht', List.length_append] at hf ⊢
      rw [wrap64] <;> omega
    have e5 : ¬ (((ls.take (i + 1)).flatten.length : Int) < 0) := by omega
    simp only [lss_int, Option.bind_some, e1, decide_true, condK_t, ixA_map (f := bys) (fun _ => rfl) (List.getElem?_eq_getElem hi), loadA_ip1, lenV_bys, add_int, e4, e5, decide_false, condK_f, e3]
    exact concat_sum hl ht m (i + 1) (by omega)
theorem Concat_byte_ok (ls : List (List UInt8)) (hl : ls.length < 2^62) (ht : ls.flatten.length ≤ 2^46) : EV C n_Concat_byte [.lst (ls.map bys)] [] = some (bys ls.flatten, [], []) := by
  refine Concat_byte_of ?_
  have hlen : ∀ H, lenV (.lst (ls.map bys)) H = some (.int .i64 ls.length) := fun H => by simp
  simp only [hlen, Option.bind_some]
  exact concat_sum hl ht ls.length 0 (by omega)
end Go.Pm
namespace Go.Pm
open Go.Proofs
set_option linter.unusedVariables false
set_option linter.unusedSimpArgs false
theorem wal_check_ok (a b : List UInt8) (h : a.length + b.length ≤ 2^46) : EV C n_wal_check [bys a, bys b] [] = some (.int .u32 (crc (a ++ b)), [], []) := by
  refine wal_check_of ?_
  have e1 : ∀ (H : List AObj) (K : AV → List AObj → List Nat → Option R3), litK 1 2 .nils [(0, bys a), (1, bys b)] H K = K (.lst ([a, b].map bys)) H [] := fun H K => rfl
  simp only [e1]
  rw [callK_ok (by simp) (Concat_byte_ok [a, b] (by simp) (by simpa using h))]
  rw [show [a, b].flatten = a ++ b by simp]
  rw [callK_ok (by simp) (wal_Sum_ok (a ++ b) (by rw [List.length_append]; omega))]
  exact endB_good rfl
theorem appD_fresh {z by_ : Nat} {x y : AV} {ys : List AV} {H : List AObj} (hx : freshA x = true) (hy : elemsA y H = some ys) (hg : goodL ys = true) (hz : lz z ys = true) (h1 : 0 < z) (h2 : 0 < by_) (h3 : by_ ≤ 1048576) (h4 : ys.length * by_ ≤ 140737489400832) :
    appD z by_ x y H = some (.lst ys) := by
  unfold appD appF
  rw [hy, Option.bind_some, if_pos ⟨hx, hg, fun _ => ⟨hz, h1, h2, h3, h4⟩⟩]
theorem appDb (l : List UInt8) (h : l.length ≤ 2^46) (H : List AObj) : appD 1 1 (AV.emp none) (bys l) H = some (bys l) := appD_fresh rfl rfl (goodL_u8 l) (lz_u8 l) (by decide) (by decide) (by decide) (by simp; omega)
theorem Clone_byte_ok (l : List UInt8) (h : l.length ≤ 2^46) : EV C n_Clone_byte [bys l] [] = some (bys l, [], []) := by
  cases l with
  | nil =>
    refine clone_nil (C0 := C0) (l := [n_Clone_byte, n_Clone_byte_r]) rfl rfl ?_ ?_
    · refine Clone_byte_of ?_
      show endB false false 0 .nils [] [] = _
      exact endB_frz (u := .lst []) rfl rfl
    · refine Clone_byte_of ?_
      show ((appD 1 1 (AV.emp none) (.emp (some false)) []).bind fun a2 => endB false false 0 a2 [] []) = _
      rw [show appD 1 1 (AV.emp none) (.emp (some false)) [] = some (.lst []) from rfl, Option.bind_some]
      exact endB_good rfl
  | cons x l =>
    rw [show bys (x :: l) = .lst (u8 x :: l.map u8) from rfl, clone_cons (C0 := C0) (l := [n_Clone_byte, n_Clone_byte_r]) rfl rfl]
    refine Clone_byte_of ?_
    have e1 : binA .eql (.slice 5) (cmpT Try.prog) true (.lst (u8 x :: l.map u8)) .nils = some (.bool false) := rfl
    simp only [e1, Option.bind_some, condK_f]
    rw [show AV.lst (u8 x :: l.map u8) = bys (x :: l) from rfl, appDb (x :: l) h, Option.bind_some]
    exact endB_good (good_bys (x :: l))
/-- a record's frame -/
def frame (l : List UInt8) : List UInt8 := fourL l.length ++ (fourL (crc (fourL l.length ++ l)) ++ l)
theorem wal_Frame_ok (l : List UInt8) (h : l.length ≤ 2097152) : EV C n_wal_Frame [bys l] [] = some (.tup [bys (frame l), .nili], [], []) := by
  refine wal_Frame_of ?_
  have e1 : ¬ ((2097152 : Int) < (l.length : Int)) := by omega
  simp only [lenV_bys, Option.bind_some, gtr_int, e1, decide_false, condK_f, cvI_int, wrap_u32 (show l.length < 2^32 by omega)]
  rw [callK_ok (by simp) (wal_four_ok l.length (by omega))]
  rw [callK_ok (by simp) (wal_check_ok (fourL l.length) l (by simp [fourL]; omega))]
  rw [callK_ok (by simp) (wal_four_ok _ (crc_lt _))]
  have e2 : ∀ (a b c : List UInt8) (H : List AObj) (K : AV → List AObj → List Nat → Option R3), litK 1 3 .nils [(0, bys a), (1, bys b), (2, bys c)] H K = K (.lst ([a, b, c].map bys)) H [] := fun a b c H K => rfl
  rw [e2]
  rw [callK_ok (by simp) (Concat_byte_ok _ (by simp) (by simp [fourL]; omega))]
  refine endB_good (by simp) |>.trans ?_
  simp [frame]
end Go.Pm
namespace Go.Pm
open Go.Proofs
set_option linter.unusedVariables false
set_option linter.unusedSimpArgs false
def sub (b : List UInt8) (i j : Nat) : List UInt8 := (b.take j).drop i
theorem sub_len {b : List UInt8} {i j : Nat} (h : j ≤ b.length) : (sub b i j).length = j - i := by unfold sub; rw [List.length_drop, List.length_take]; omega
theorem sub_eq (b : List UInt8) (i j : Nat) : sub b i j = (b.drop i).take (j - i) := List.drop_take ..
theorem numL_take (l : List UInt8) (k : Nat) (h : 4 ≤ k) : numL (l.take k) = numL l := by
  obtain ⟨k, rfl⟩ := Nat.exists_eq_add_of_le h
  rcases l with _ | ⟨a, _ | ⟨b, _ | ⟨c, _ | ⟨d, t⟩⟩⟩⟩ <;> simp [numL, Nat.add_comm 4 k]
theorem numL_sub {b : List UInt8} {i j k : Nat} (h1 : i + 4 ≤ j) (h2 : i + 4 ≤ k) : numL (sub b i j) = numL (sub b i k) := by
  rw [sub_eq, sub_eq, numL_take _ _ (by omega), numL_take _ _ (by omega)]
def recAt (b : List UInt8) (p : Nat) : Option (List UInt8) :=
  if p + 8 ≤ b.length then
    let n := numL (sub b p (p + 4))
    if n ≤ 2097152 ∧ p + 8 + n ≤ b.length then
      if crc (sub b p (p + 4) ++ sub b (p + 8) (p + 8 + n)) = numL (sub b (p + 4) (p + 8)) then some (sub b (p + 8) (p + 8 + n)) else none
    else none
  else none
def scanF (b : List UInt8) : Nat → Nat → List (List UInt8) × Nat
  | 0, p => ([], p)
  | m + 1, p => match recAt b p with
    | none => ([], p)
    | some r => (r :: (scanF b m (p + 8 + r.length)).1, (scanF b m (p + 8 + r.length)).2)
theorem cut_sub {b : List UInt8} {H : List AObj} {i j : Nat} (h1 : i ≤ j) (h2 : j ≤ b.length) : cutA 1 (bys b) (some (.int .i64 (i : Int))) (some (.int .i64 (j : Int))) none H = some (bys (sub b i j)) := cutA_bys rfl rfl h1 h2
theorem cut_from {b : List UInt8} {H : List AObj} {i : Nat} (h1 : i ≤ b.length) : cutA 1 (bys b) (some (.int .i64 (i : Int))) none none H = some (bys (sub b i b.length)) := cutA_bys rfl rfl h1 (Nat.le_refl _)
theorem w64 {x : Int} {n : Nat} (h : x = n) (h1 : n < 2^63) : IntKind.i64.wrap x = (n : Int) := by subst h; rw [wrap64] <;> omega
theorem wal_scan_loop (b : List UInt8) (hb : b.length < 2^40) : ∀ (m p : Nat) (out : List (List UInt8)) (E : List Nat), p ≤ b.length → b.length ≤ p + m → out.length ≤ p →
    wal_Scan_J3 0 (bys b) (.slc 0 0 out.length out.length) (.int .i64 p) [vro 1 (out.map bys)] E = some (.tup [.lst ((out ++ (scanF b m p).1).map bys), .int .i64 ((scanF b m p).2 : Nat)], [], []) := by
  intro m
  induction m with
  | zero =>
    intro p out E h1 h2 h3
    refine wal_Scan_J3_of ?_
    have e1 : IntKind.i64.wrap ((b.length : Int) - (p : Int)) = ((b.length - p : Nat) : Int) := w64 (by omega) (by omega)
    have e2 : ¬ ((8 : Int) ≤ ((b.length - p : Nat) : Int)) := by omega
    simp only [lenV_bys, Option.bind_some, sub_int, e1, geq_int, e2, decide_false, condK_f, scanF]
    rw [List.append_nil]
    exact endB_frz (frz_tup (frzL_cons (frz_vro (z := 1) rfl (List.length_map _).symm (goodL_bys _)) (frzL_cons rfl rfl))) (by simp)
  | succ m ih =>
    intro p out E h1 h2 h3
    have fin : ∀ (H : List AObj) (E : List Nat), H = [vro 1 (out.map bys)] → recAt b p = none → endB false false 0 (.tup [.slc 0 0 out.length out.length, .int .i64 p]) H E = some (.tup [.lst ((out ++ (scanF b (m + 1) p).1).map bys), .int .i64 ((scanF b (m + 1) p).2 : Nat)], [], []) := fun H E hH hr => by
      subst hH
      simp only [scanF, hr]
      rw [List.append_nil]
      exact endB_frz (frz_tup (frzL_cons (frz_vro (z := 1) rfl (List.length_map _).symm (goodL_bys _)) (frzL_cons rfl rfl))) (by simp)
    refine wal_Scan_J3_of ?_
    have e1 : IntKind.i64.wrap ((b.length : Int) - (p : Int)) = ((b.length - p : Nat) : Int) := w64 (by omega) (by omega)
    simp only [lenV_bys, Option.bind_some, sub_int, e1, geq_int]
    rcases Nat.lt_or_ge b.length (p + 8) with hs | hs
    · have e2 : ¬ ((8 : Int) ≤ ((b.length - p : Nat) : Int)) := by omega
      simp only [e2, decide_false, condK_f]
      exact fin _ _ rfl (by unfold recAt; rw [if_neg (by omega)])
    · have e2 : ((8 : Int) ≤ ((b.length - p : Nat) : Int)) := by omega
      have a4 : IntKind.i64.wrap ((p : Int) + 4) = ((p + 4 : Nat) : Int) := w64 (by omega) (by omega)
      have a8 : IntKind.i64.wrap ((p : Int) + 8) = ((p + 8 : Nat) : Int) := w64 (by omega) (by omega)
      simp only [e2, decide_true, condK_t, add_int, a4, a8, Option.bind_some, cut_sub (show p ≤ p + 4 by omega) (show p + 4 ≤ b.length by omega)]
      rw [callK_ok (by simp) (wal_number_ok _ (by rw [sub_len (by omega)]; omega))]
      have hn32 := numL_lt (sub b p (p + 4))
      generalize hn : numL (sub b p (p + 4)) = n at hn32
      simp only [gtr_int, Option.bind_some, splitK_dec]
      split
      · rename_i hc
        refine fin _ _ rfl ?_
        unfold recAt
        rw [if_pos hs]; simp only [hn]; rw [if_neg (by omega)]
      · rename_i hc
        have c1 : IntKind.i64.wrap (n : Int) = (n : Int) := w64 rfl (by omega)
        have c2 : IntKind.i64.wrap (((b.length - p : Nat) : Int) - 8) = ((b.length - p - 8 : Nat) : Int) := w64 (by omega) (by omega)
        simp only [cvI_int, c1, lenV_bys, Option.bind_some, sub_int, e1, c2, gtr_int, condK_dec]
        split
        · rename_i hd
          refine fin _ _ rfl ?_
          unfold recAt
          rw [if_pos hs]; simp only [hn]; rw [if_neg (by omega)]
        · rename_i hd
          have a8n : IntKind.i64.wrap (((p + 8 : Nat) : Int) + (n : Int)) = ((p + 8 + n : Nat) : Int) := w64 (by omega) (by omega)
          have s8n : IntKind.i64.wrap ((8 : Int) + (n : Int)) = ((8 + n : Nat) : Int) := w64 (by omega) (by omega)
          have s8m : IntKind.i64.wrap ((p : Int) + ((8 + n : Nat) : Int)) = ((p + 8 + n : Nat) : Int) := w64 (by omega) (by omega)
          have hrl : (sub b (p + 8) (p + 8 + n)).length = n := by rw [sub_len (by omega)]; omega
          simp only [add_int, a8, a8n, Option.bind_some, cut_sub (show p + 8 ≤ p + 8 + n by omega) (show p + 8 + n ≤ b.length by omega), a4, cut_from (show p + 4 ≤ b.length by omega)]
          rw [callD_ok (by simp) (wal_check_ok _ _ (by rw [hrl, sub_len (by omega)]; omega)), callD_ok (by simp) (wal_number_ok _ (by rw [sub_len (by omega)]; omega))]
          have hns : numL (sub b (p + 4) b.length) = numL (sub b (p + 4) (p + 8)) := numL_sub (by omega) (by omega)
          simp only [Option.bind_some, neq_int, hns]
          by_cases hq : crc (sub b p (p + 4) ++ sub b (p + 8) (p + 8 + n)) = numL (sub b (p + 4) (p + 8))
          · have hr : recAt b p = some (sub b (p + 8) (p + 8 + n)) := by
              unfold recAt
              rw [if_pos hs]; simp only [hn]; rw [if_pos (by omega), if_pos hq]
            have hq' : decide ((crc (sub b p (p + 4) ++ sub b (p + 8) (p + 8 + n)) : Int) = ((numL (sub b (p + 4) (p + 8)) : Nat) : Int)) = true := by simp [hq]
            simp only [hq', Bool.not_true, condK_f]
            rw [callK_ok (by simp) (Clone_byte_ok _ (by rw [hrl]; omega))]
            have hl : ∀ (v : AV) (H : List AObj) (K : AV → List AObj → List Nat → Option R3), litK 1 1 .nils [(0, bys (sub b (p + 8) (p + 8 + n)))] H K = K (.lst ([sub b (p + 8) (p + 8 + n)].map bys)) H [] := fun v H K => rfl
            rw [hl .bad]
            rw [appK_vro (n := out.length) (es := out.map bys) (ys := [sub b (p + 8) (p + 8 + n)].map bys) rfl rfl (List.length_map _).symm rfl (by decide) (by decide) (by decide) (by simp; omega)]
            simp only [cvI_int, c1, Option.bind_some, add_int, s8n, s8m]
            have := ih (p + 8 + n) (out ++ [sub b (p + 8) (p + 8 + n)]) ((if ([sub b (p + 8) (p + 8 + n)].map bys).isEmpty = true then [] else escs 0 ([sub b (p + 8) (p + 8 + n)].map bys)) ++ ([] ++ ([] ++ ([] ++ []))) ++ E) (by omega) (by omega) (by simp; omega)
            simp only [scanF, hr, hrl]
            rw [List.map_append, List.length_append] at this
            rw [show out ++ (sub b (p + 8) (p + 8 + n) :: (scanF b m (p + 8 + n)).1) = out ++ [sub b (p + 8) (p + 8 + n)] ++ (scanF b m (p + 8 + n)).1 by simp]
            exact this
          · have hq' : decide ((crc (sub b p (p + 4) ++ sub b (p + 8) (p + 8 + n)) : Int) = ((numL (sub b (p + 4) (p + 8)) : Nat) : Int)) = false := by simp; omega
            simp only [hq', Bool.not_false, condK_t]
            refine fin _ _ rfl ?_
            unfold recAt
            rw [if_pos hs]; simp only [hn]; rw [if_pos (by omega), if_neg hq]
theorem wal_Scan_ok (b : List UInt8) (hb : b.length < 2^40) : EV C n_wal_Scan [bys b] [] = some (.tup [.lst ((scanF b b.length 0).1.map bys), .int .i64 ((scanF b b.length 0).2 : Nat)], [], []) := by
  refine wal_Scan_of ?_
  exact wal_scan_loop b hb b.length 0 [] [] (by omega) (by omega) (by simp)
end Go.Pm
namespace Go.Pm
open Go.Proofs
set_option linter.unusedVariables false
set_option linter.unusedSimpArgs false
theorem ld_fld {H : List AObj} {l z j : Nat} {cs : List AV} {v : AV} (h : H[l]? = some (.row z [.agg cs])) (hv : cs[j]? = some v) : loadA false 1 (.ptr l 1 0 j) H = some v := by
  unfold loadA
  simp only [h, List.length_singleton, if_true, List.getElem?_cons_zero, Option.bind_some, AV.cells, ldv, Bool.false_eq_true, if_false, List.getElem?_drop, Nat.add_zero, hv]
theorem ld_all {H : List AObj} {l z n : Nat} {cs : List AV} (h : H[l]? = some (.row z [.agg cs])) (hn : cs.length = n) : loadA true n (.ptr l 1 0 0) H = some (.agg cs) := by
  unfold loadA
  simp only [h, List.length_singleton, if_true, List.getElem?_cons_zero, Option.bind_some, AV.cells, ldv, List.drop_zero]
  rw [if_pos (by omega), List.take_of_length_le (by omega)]
theorem sto_fld {β : Type} {H : List AObj} {l z j : Nat} {cs : List AV} {v : AV} {K : List AObj → List Nat → Option β} (h : H[l]? = some (.row z [.agg cs])) (hj : j < cs.length) (hc : v.cells = [v]) (h1 : v.one = true) (hb : v.bel (l + 1) = true) :
    stoK 1 (.ptr l 1 0 j) v H K = K (H.set l (.row z [.agg (cs.set j v)])) [] := by
  have h2 : storeA 1 (.ptr l 1 0 j) v H = some (H.set l (.row z [.agg (cs.set j v)]), []) := by
    have e : cs.take j ++ [v] ++ cs.drop (j + 1) = cs.set j v := by
      rw [List.set_eq_take_append_cons_drop, if_pos hj]; simp
    unfold storeA
    simp only [h, hc, List.length_singleton, List.all_cons, h1, List.all_nil, Bool.and_self, and_self, if_true, List.getElem?_cons_zero, Option.bind_some, setC]
    rw [if_pos (by omega), e]
    simp [escs, belL, hb]
  unfold stoK; rw [h2]; rfl
theorem sto_all {β : Type} {H : List AObj} {l z n : Nat} {cs ds : List AV} {K : List AObj → List Nat → Option β} (h : H[l]? = some (.row z [.agg cs])) (hn : cs.length = n) (hd : ds.length = n) (h1 : ds.all AV.one = true) (hb : belL (l + 1) ds = true) :
    stoK n (.ptr l 1 0 0) (.agg ds) H K = K (H.set l (.row z [.agg ds])) [] := by
  have h2 : storeA n (.ptr l 1 0 0) (.agg ds) H = some (H.set l (.row z [.agg ds]), []) := by
    unfold storeA
    simp only [h, AV.cells, List.length_singleton]
    rw [if_pos ⟨trivial, hd, h1⟩]
    simp only [List.getElem?_cons_zero, Option.bind_some, setC]
    rw [if_pos (by omega)]
    simp [escs, hb, hd, List.drop_of_length_le (show cs.length ≤ n by omega)]
  unfold stoK; rw [h2]; rfl
theorem new_agg {β : Type} {cs : List AV} {H : List AObj} {K : AV → List AObj → List Nat → Option β} (h0 : cs ≠ []) (h1 : cs.all AV.one = true) : newK (.agg cs) H K = K (.ptr H.length 1 0 0) (H ++ [.row cs.length [.agg cs]]) [] := by
  have : newA (.agg cs) H = some (.ptr H.length 1 0 0, H ++ [.row cs.length [.agg cs]], []) := by
    unfold newA
    rw [show (AV.agg cs).cells = cs from rfl, if_pos ⟨h0, h1⟩]
  unfold newK; rw [this]; rfl
structure Fil where
  b : List UInt8
  sy : Int
structure Dk where
  sz : Int
  fs : List (List UInt8 × Fil)
  off : Bool
  steps : Int
  has : Bool
  bud : Int
def Fil.cs (f : Fil) : List AV := [bys f.b, .int .i64 f.sy]
def Fil.av (f : Fil) : AV := .agg f.cs
def fobj (fs : List (List UInt8 × Fil)) : AObj := mpo sv Fil.av fs
def Dk.cs (L : Nat) (d : Dk) : List AV := [.int .i64 d.sz, .mp L, .bool d.off, .int .i64 d.steps, .bool d.has, .int .i64 d.bud]
def drow (L : Nat) (d : Dk) : AObj := .row 6 [.agg (d.cs L)]
theorem Fil.good (f : Fil) : f.av.good = true := by simp [Fil.av, Fil.cs, AV.good, goodL]
theorem Fil.bel0 (f : Fil) : f.av.bel 0 = true := bel_good 0 _ f.good
structure At (H : List AObj) (L D : Nat) (d : Dk) : Prop where
  m : H[L]? = some (fobj d.fs)
  r : H[D]? = some (drow L d)
  lt : L < D
theorem At.dl {H : List AObj} {L D : Nat} {d : Dk} (h : At H L D d) : D < H.length := (List.getElem?_eq_some_iff.1 h.r).1
theorem At.app {H : List AObj} {L D : Nat} {d : Dk} (h : At H L D d) (X : List AObj) : At (H ++ X) L D d := by
  have := h.dl; have := h.lt
  exact ⟨by rw [List.getElem?_append_left (by omega)]; exact h.m, by rw [List.getElem?_append_left (by omega)]; exact h.r, h.lt⟩
def pt (H : List AObj) (L D : Nat) (d : Dk) : List AObj := (H.set L (fobj d.fs)).set D (drow L d)
theorem pt_len (H : List AObj) (L D : Nat) (d : Dk) : (pt H L D d).length = H.length := by simp [pt]
theorem At.pt {H : List AObj} {L D : Nat} {d0 : Dk} (h : At H L D d0) (d : Dk) : At (pt H L D d) L D d := by
  have := h.dl; have := h.lt
  refine ⟨?_, ?_, h.lt⟩
  · unfold Go.Pm.pt; rw [List.getElem?_set_ne (by omega), List.getElem?_set_self (by omega)]
  · unfold Go.Pm.pt; rw [List.getElem?_set_self (by simpa using h.dl)]
theorem pt_self {H : List AObj} {L D : Nat} {d : Dk} (h : At H L D d) : pt H L D d = H := by
  have := h.dl; have := h.lt
  obtain ⟨h1, h2⟩ := List.getElem?_eq_some_iff.1 h.m
  obtain ⟨h3, h4⟩ := List.getElem?_eq_some_iff.1 h.r
  unfold pt
  rw [← h2, List.set_getElem_self, ← h4, List.set_getElem_self]
theorem pt_pt {H : List AObj} {L D : Nat} (d d' : Dk) (h : L < D) : pt (pt H L D d) L D d' = pt H L D d' := by
  unfold pt
  rw [List.set_comm _ _ (show D ≠ L by omega), List.set_set, List.set_set]
theorem pt_app {H : List AObj} {L D : Nat} {d0 : Dk} (h : At H L D d0) (X : List AObj) (d : Dk) : pt (H ++ X) L D d = pt H L D d ++ X := by
  have := h.dl; have := h.lt
  unfold pt
  rw [List.set_append_left _ _ (by omega), List.set_append_left _ _ (by simpa using h.dl)]
/-- a cell of the disk's own -/
theorem set_D {H : List AObj} {L D : Nat} {d : Dk} (h : At H L D d) (d' : Dk) (hf : d'.fs = d.fs) : H.set D (drow L d') = pt H L D d' := by
  obtain ⟨h1, h2⟩ := List.getElem?_eq_some_iff.1 h.m
  unfold pt
  rw [hf, ← h2, List.set_getElem_self]
/-- its files -/
theorem set_L {H : List AObj} {L D : Nat} {d : Dk} (h : At H L D d) (fs : List (List UInt8 × Fil)) : H.set L (fobj fs) = pt H L D { d with fs := fs } := by
  have := h.lt
  obtain ⟨h1, h2⟩ := List.getElem?_eq_some_iff.1 h.r
  have e : drow L { d with fs := fs } = drow L d := rfl
  unfold pt
  rw [e, List.set_comm _ _ (show L ≠ D by omega), ← h2, List.set_getElem_self]
section
variable {β : Type} {H : List AObj} {L D : Nat} {d : Dk} {K : List AObj → List Nat → Option β}
theorem At.sz (h : At H L D d) : loadA false 1 (.ptr D 1 0 0) H = some (.int .i64 d.sz) := ld_fld h.r rfl
theorem At.fs (h : At H L D d) : loadA false 1 (.ptr D 1 0 1) H = some (.mp L) := ld_fld h.r rfl
theorem At.off (h : At H L D d) : loadA false 1 (.ptr D 1 0 2) H = some (.bool d.off) := ld_fld h.r rfl
theorem At.st (h : At H L D d) : loadA false 1 (.ptr D 1 0 3) H = some (.int .i64 d.steps) := ld_fld h.r rfl
theorem At.has (h : At H L D d) : loadA false 1 (.ptr D 1 0 4) H = some (.bool d.has) := ld_fld h.r rfl
theorem At.bud (h : At H L D d) : loadA false 1 (.ptr D 1 0 5) H = some (.int .i64 d.bud) := ld_fld h.r rfl
theorem At.soff (h : At H L D d) (b : Bool) : stoK 1 (.ptr D 1 0 2) (.bool b) H K = K (Go.Pm.pt H L D { d with off := b }) [] := by
  rw [sto_fld h.r (by simp [Dk.cs]) rfl rfl rfl, ← set_D h { d with off := b } rfl]; rfl
theorem At.sst (h : At H L D d) (n : Int) : stoK 1 (.ptr D 1 0 3) (.int .i64 n) H K = K (Go.Pm.pt H L D { d with steps := n }) [] := by
  rw [sto_fld h.r (by simp [Dk.cs]) rfl rfl rfl, ← set_D h { d with steps := n } rfl]; rfl
theorem At.sbud (h : At H L D d) (n : Int) : stoK 1 (.ptr D 1 0 5) (.int .i64 n) H K = K (Go.Pm.pt H L D { d with bud := n }) [] := by
  rw [sto_fld h.r (by simp [Dk.cs]) rfl rfl rfl, ← set_D h { d with bud := n } rfl]; rfl
theorem At.look (h : At H L D d) (z : AV) (ok : Bool) (nm : List UInt8) : lookV (some .string) z ok (.mp L) (sv nm) H = some (lookL Fil.av z ok (getL nm d.fs)) := lookV_mpo keyS h.m z ok nm
theorem At.upd (h : At H L D d) (nm : List UInt8) (f : Fil) (hl : d.fs.length < 2^40) {K : List AObj → Option β} : updK (some .string) (.mp L) (sv nm) f.av H K = K (Go.Pm.pt H L D { d with fs := putL nm f d.fs }) := by
  rw [updK_mpo keyS h.m nm f f.bel0 hl, ← set_L h]; rfl
theorem At.del (h : At H L D d) (nm : List UInt8) {K : List AObj → Option β} : delK (some .string) (.mp L) (sv nm) H K = K (Go.Pm.pt H L D { d with fs := delL nm d.fs }) := by
  rw [delK_mpo keyS h.m nm, ← set_L h]; rfl
theorem At.len (h : At H L D d) : lenW (.mp L) H = some (.int .i64 (d.fs.length : Int)) := lenW_mpo h.m
end
def DM (f : FuncId) (args : List AV) (d : Dk) (v : AV) (d' : Dk) : Prop := ∀ (H : List AObj) (L D : Nat), At H L D d → EV C f (.ptr D 1 0 0 :: args) H = some (v, pt H L D d', [])
theorem DM.call {f : FuncId} {args : List AV} {d d' : Dk} {v : AV} (h : DM f args d v d') (hg : goodL args = true) {β : Type} {H : List AObj} {L D : Nat} (ha : At H L D d) {K : AV → List AObj → List Nat → Option β} :
    callK (EV C) false f (.ptr D 1 0 0 :: args) H K = K v (pt H L D d') [] := by
  have e1 : frzL H (.ptr D 1 0 0 :: args) = some (.ptr D 1 0 0 :: args) := by simp only [frzL, frz, Option.bind_some, frzL_good H args hg, Option.map_some]
  have e2 : belL 0 (.ptr D 1 0 0 :: args) = false := by simp [belL, AV.bel]
  have e3 : killsL (.ptr D 1 0 0 :: args) = [] := by simp [killsL, kills, killsL_good args hg]
  unfold callK callA
  simp only [Bool.false_eq_true, if_false, e1, Option.bind_some, e2, e3, killAll, h H L D ha]
/-- the end of a method -/
theorem DM.fin {v : AV} {H X : List AObj} {L D : Nat} {d0 d : Dk} (ha : At H L D d0) (hg : v.good = true) : endB false false H.length v (pt H L D d ++ X) [] = some (v, pt H L D d, []) := by
  unfold endB endA
  rw [if_neg (by decide), frz_good _ v hg]
  simp only [Option.map_some, Option.bind_some, kills_good v hg, killAll, Bool.false_eq_true, if_false, bel_good _ v hg, List.all_nil, and_self, if_true]
  rw [List.take_left' (pt_len H L D d)]
theorem DM.fin0 {v : AV} {H : List AObj} {L D : Nat} {d0 d : Dk} (ha : At H L D d0) (hg : v.good = true) : endB false false H.length v (pt H L D d) [] = some (v, pt H L D d, []) := by
  have := DM.fin (X := []) (d := d) ha hg; rwa [List.append_nil] at this
theorem DM.same {v : AV} {H X : List AObj} {L D : Nat} {d : Dk} (ha : At H L D d) (hg : v.good = true) : endB false false H.length v (H ++ X) [] = some (v, pt H L D d, []) := by
  have := DM.fin (X := X) (d := d) ha hg; rwa [pt_self ha] at this ⊢
theorem DM.same0 {v : AV} {H : List AObj} {L D : Nat} {d : Dk} (ha : At H L D d) (hg : v.good = true) : endB false false H.length v H [] = some (v, pt H L D d, []) := by
  have := DM.same (X := []) ha hg; rwa [List.append_nil] at this
/-- an error's number -/
def erA (k : Int) : AV := if k = 0 then .nili else .ifc t_api_Code (.int .i64 k)
theorem er_good (k : Int) : (erA k).good = true := by unfold erA; split <;> rfl
theorem er_ne (k : Int) (h : k ≠ 0) : erA k = .ifc t_api_Code (.int .i64 k) := if_neg h
theorem er_neq (k : Int) (ms : Array (String × TypeId)) (c : TypeId → Bool) : binA .neq (.interface ms) c true (erA k) .nili = some (.bool (decide (k ≠ 0))) := by
  unfold erA
  by_cases h : k = 0
  · rw [if_pos h]; simp [h]; rfl
  · rw [if_neg h]; simp [h]; rfl
def stepF (d : Dk) : Bool × Dk :=
  let d1 := { d with steps := IntKind.i64.wrap (d.steps + 1) }
  if d.has = true then (if d.bud = 0 then (false, { d1 with off := true }) else (true, { d1 with bud := IntKind.i64.wrap (d.bud - 1) })) else (true, d1)
theorem step_m (d : Dk) : DM n_disk_Disk_step [] d (.bool (stepF d).1) (stepF d).2 := fun H L D ha => by
  refine disk_Disk_step_of ?_
  obtain ⟨sz, fs, off, st, has, bud⟩ := d
  have h1 := ha.pt ⟨sz, fs, off, IntKind.i64.wrap (st + 1), has, bud⟩
  have nA : nilA (.ptr D 1 0 0) = some (.ptr D 1 0 0) := rfl
  have oA : ∀ k, offA (.ptr D 1 0 0) k = some (.ptr D 1 0 k) := fun k => by simp [offA]
  simp -implicitDefEqProofs only [nA, oA, Option.bind_some, ha.st, add_int, ha.sst, h1.has, unA, List.append_nil]
  unfold stepF
  dsimp only
  cases has with
  | false =>
    simp -implicitDefEqProofs only [Bool.not_false, condK_t, Bool.false_eq_true, if_false]
    exact DM.fin0 ha rfl
  | true =>
    simp -implicitDefEqProofs only [Bool.not_true, condK_f, if_true, h1.bud, Option.bind_some, eql_int, condK_dec]
    by_cases hb : bud = 0
    · rw [if_pos hb, if_pos hb, h1.soff, pt_pt _ _ ha.lt]
      exact DM.fin0 ha rfl
    · rw [if_neg hb, if_neg hb]
      simp -implicitDefEqProofs only [sub_int, Option.bind_some]
      rw [h1.sbud, pt_pt _ _ ha.lt]
      exact DM.fin0 ha rfl
def namedF (nm : List UInt8) : Bool := decide (1 ≤ nm.length) && decide (nm.length ≤ 16)
theorem named_ok (nm : List UInt8) (H : List AObj) : EV C n_disk_named [sv nm] H = some (.bool (namedF nm), H, []) := by
  refine disk_named_of ?_
  have e : lenS (sv nm) = some (.int .i64 (nm.length : Int)) := rfl
  have fin : ∀ b : Bool, endB false false H.length (.bool b) H [] = some (.bool b, H, []) := fun b => by
    unfold endB endA; simp [frz, kills, killAll, AV.bel]
  simp -implicitDefEqProofs only [e, Option.bind_some, geq_int, splitK_dec, leq_int]
  unfold namedF
  by_cases h : (1 : Int) ≤ (nm.length : Int)
  · rw [if_pos h, fin, show decide (1 ≤ nm.length) = true from decide_eq_true (by omega), Bool.true_and]
    congr 3
    rw [Bool.eq_iff_iff]; simp only [decide_eq_true_eq]; omega
  · rw [if_neg h, fin, show decide (1 ≤ nm.length) = false from decide_eq_false (by omega), Bool.false_and]
theorem namedK (nm : List UInt8) {β : Type} {H : List AObj} {K : AV → List AObj → List Nat → Option β} : callK (EV C) false n_disk_named [sv nm] H K = K (.bool (namedF nm)) H [] := callK_ok (by simp [goodL, sv, AV.good]) (named_ok nm [])
def thereF (d : Dk) (nm : List UInt8) : Int := if d.off = true then 10 else if (getL nm d.fs).isNone = true then 9 else 0
theorem there_m (d : Dk) (nm : List UInt8) : DM n_disk_Disk_there [sv nm] d (erA (thereF d nm)) d := fun H L D ha => by
  refine disk_Disk_there_of ?_
  have nA : nilA (.ptr D 1 0 0) = some (.ptr D 1 0 0) := rfl
  have oA : ∀ k, offA (.ptr D 1 0 0) k = some (.ptr D 1 0 k) := fun k => by simp [offA]
  simp -implicitDefEqProofs only [nA, oA, Option.bind_some, ha.off]
  unfold thereF
  cases ho : d.off with
  | true =>
    simp -implicitDefEqProofs only [condK_t, if_true]
    exact DM.same0 ha rfl
  | false =>
    simp -implicitDefEqProofs only [condK_f, Bool.false_eq_true, if_false, ha.fs, Option.bind_some, ha.look]
    have hn : (H ++ [AObj.row 2 [.agg [.nils, .int .i64 0]]])[H.length]? = some (.row 2 [.agg [.nils, .int .i64 0]]) := by simp
    cases hg : getL nm d.fs with
    | none =>
      simp -implicitDefEqProofs only [lookL, if_true, extA_0, extA_1, Option.bind_some]
      rw [new_agg (by simp) rfl]
      refine Eq.trans (sto_all hn rfl rfl rfl rfl) ?_
      simp -implicitDefEqProofs only [unA, Bool.not_false, Option.bind_some, condK_t, Option.isNone_none, if_true]
      rw [List.set_append_right _ _ (by omega)]
      exact DM.same ha rfl
    | some f =>
      simp -implicitDefEqProofs only [lookL, if_true, extA_0, extA_1, Option.bind_some]
      rw [new_agg (by simp) rfl]
      refine Eq.trans (sto_all hn rfl rfl rfl (belL_good _ _ (by simp [Fil.cs, goodL, AV.good]))) ?_
      simp -implicitDefEqProofs only [unA, Bool.not_true, Option.bind_some, condK_f, Option.isNone_some, Bool.false_eq_true, if_false]
      rw [List.set_append_right _ _ (by omega)]
      exact DM.same ha rfl
end Go.Pm
namespace Go.Pm
open Go.Proofs
set_option linter.unusedVariables false
set_option linter.unusedSimpArgs false
theorem nP (D : Nat) : nilA (.ptr D 1 0 0) = some (.ptr D 1 0 0) := rfl
theorem oP (D k : Nat) : offA (.ptr D 1 0 0) k = some (.ptr D 1 0 k) := by simp [offA]
section
variable {f : FuncId} {args : List AV} {d d0 d' : Dk} {v : AV} {β : Type} {H : List AObj} {L D : Nat} {K : AV → List AObj → List Nat → Option β}
theorem DM.callX (h : DM f args d v d') (hg : goodL args = true) (ha : At H L D d) (X : List AObj) : callK (EV C) false f (.ptr D 1 0 0 :: args) (H ++ X) K = K v (pt H L D d' ++ X) [] := by
  rw [h.call hg (ha.app X), pt_app ha]
theorem DM.callP (h : DM f args d v d') (hg : goodL args = true) (ha : At H L D d0) : callK (EV C) false f (.ptr D 1 0 0 :: args) (pt H L D d) K = K v (pt H L D d') [] := by
  rw [h.call hg (ha.pt d), pt_pt _ _ ha.lt]
theorem DM.callPX (h : DM f args d v d') (hg : goodL args = true) (ha : At H L D d0) (X : List AObj) : callK (EV C) false f (.ptr D 1 0 0 :: args) (pt H L D d ++ X) K = K v (pt H L D d' ++ X) [] := by
  rw [h.callX hg (ha.pt d) X, pt_pt _ _ ha.lt]
end
def totF (fs : List (List UInt8 × Fil)) : Nat := (fs.map fun p => p.2.b.length).sum
structure Dk.ok (d : Dk) : Prop where
  s0 : 0 ≤ d.sz
  s1 : d.sz < 2^40
  t : (totF d.fs : Int) ≤ d.sz
  nd : (d.fs.map (·.1)).Nodup
  n8 : d.fs.length ≤ 8
  sy : ∀ p ∈ d.fs, 0 ≤ p.2.sy ∧ p.2.sy ≤ p.2.b.length
  nl : ∀ p ∈ d.fs, p.1.length < 2^40
theorem sumLen_fs : ∀ fs : List (List UInt8 × Fil), sumLen (fs.map (entA sv Fil.av)) = some (totF fs)
  | [] => rfl
  | p :: fs => by
    simp only [List.map_cons, sumLen, sumLen_fs fs, totF, List.sum_cons]
    simp [entA, Fil.av, Fil.cs, fileLen, bys]
def roomOf (d : Dk) : Int := d.sz - totF d.fs
theorem Room_ok {d : Dk} (ho : d.ok) {H : List AObj} {L D : Nat} (ha : At H L D d) : EV C n_disk_Disk_Room [.ptr D 1 0 0] H = some (.int .i64 (roomOf d), H, []) := by
  rw [EV_I C (F := roomF) rfl]
  have h0 := ho.s0; have h1 := ho.s1; have h2 := ho.t
  have hm := ha.m
  unfold fobj mpo at hm
  simp only [roomF, ha.r, drow, Dk.cs, hm, sumLen_fs, Option.bind_some]
  rw [if_pos ⟨h0, by omega, by omega⟩]
  rfl
theorem Room_m {d : Dk} (ho : d.ok) : DM n_disk_Disk_Room [] d (.int .i64 (roomOf d)) d := fun H L D ha => by rw [pt_self ha]; exact Room_ok ho ha
def fileOf (nm : List UInt8) (d : Dk) : Fil := (getL nm d.fs).getD ⟨[], 0⟩
def putF (d : Dk) (nm : List UInt8) (f : Fil) : Dk := { d with fs := putL nm f d.fs }
def stepE (d : Dk) : Int × Dk := (if (stepF d).1 = true then 0 else 10, (stepF d).2)
def appendF (d : Dk) (nm b : List UInt8) : Int × Dk :=
  if d.off = true then (10, d)
  else if namedF nm = true then
    (if roomOf d < (b.length : Int) then (11, d)
    else if (getL nm d.fs).isNone = true ∧ 8 ≤ d.fs.length then (11, d)
    else stepE (putF d nm ⟨(fileOf nm d).b ++ b, (fileOf nm d).sy⟩))
  else (1, d)
theorem lit2 (a b : List UInt8) (v : AV) (hv : v = bys a ∨ (v = .nils ∧ a = [])) {β : Type} {H : List AObj} {K : AV → List AObj → List Nat → Option β} : litK 1 2 .nils [(0, v), (1, bys b)] H K = K (.lst ([a, b].map bys)) H [] := by
  rcases hv with rfl | ⟨rfl, rfl⟩ <;> rfl
theorem tot_get {nm : List UInt8} {f : Fil} {fs : List (List UInt8 × Fil)} (h : getL nm fs = some f) : f.b.length ≤ totF fs := by
  have hm := getL_mem h
  have : ∀ l : List (List UInt8 × Fil), (nm, f) ∈ l → f.b.length ≤ totF l := fun l => by
    induction l with
    | nil => intro h; cases h
    | cons p l ih =>
      intro h
      simp only [totF, List.map_cons, List.sum_cons]
      rcases List.mem_cons.1 h with rfl | h
      · simp
      · have := ih h; simp only [totF] at this; omega
  exact this fs hm
set_option maxHeartbeats 1000000 in
theorem Append_m {d : Dk} (ho : d.ok) (nm b : List UInt8) (hb : b.length ≤ 2^45) : DM n_disk_Disk_Append [sv nm, bys b] d (erA (appendF d nm b).1) (appendF d nm b).2 := fun H L D ha => by
  refine disk_Disk_Append_of ?_
  have h0 := ho.s0; have h1 := ho.s1; have h2 := ho.t; have h8 := ho.n8
  obtain ⟨g, hg⟩ : ∃ g, g = fileOf nm d := ⟨_, rfl⟩
  -- what is found
  obtain ⟨fc, v0, w, e1, e2, e3, e4, e5⟩ : ∃ (fc : List AV) (v0 : AV) (has : Bool), lookL Fil.av (.agg [.nils, .int .i64 0]) true (getL nm d.fs) = .tup [.agg fc, .bool has] ∧ fc = [v0, .int .i64 g.sy] ∧ (v0 = bys g.b ∨ (v0 = .nils ∧ g.b = [])) ∧ has = !(getL nm d.fs).isNone ∧ g.b.length ≤ totF d.fs := by
    rw [hg]; unfold fileOf
    cases hh : getL nm d.fs with
    | none => exact ⟨_, _, _, rfl, rfl, .inr ⟨rfl, rfl⟩, rfl, by simp⟩
    | some f => exact ⟨_, _, _, rfl, rfl, .inl rfl, rfl, tot_get hh⟩
  simp -implicitDefEqProofs only [nP, oP, Option.bind_some, ha.fs, ha.look, e1, extA_0, extA_1]
  rw [new_agg (by simp) rfl]
  have hv1 : v0.one = true ∧ v0.cells = [v0] ∧ ∀ m, v0.bel m = true := by
    rcases e3 with rfl | ⟨rfl, _⟩
    · exact ⟨rfl, rfl, fun m => bel_good m _ (good_bys _)⟩
    · exact ⟨rfl, rfl, fun m => rfl⟩
  have hn : (H ++ [AObj.row 2 [.agg [.nils, .int .i64 0]]])[H.length]? = some (.row 2 [.agg [.nils, .int .i64 0]]) := by simp
  rw [e2]
  refine Eq.trans (sto_all hn rfl rfl (by simp only [List.all_cons, hv1.1, List.all_nil]; rfl) (by simp only [belL, hv1.2.2]; rfl)) ?_
  rw [List.set_append_right _ _ (by omega), Nat.sub_self, List.set_cons_zero]
  obtain ⟨X, hX⟩ : ∃ X, X = [AObj.row 2 [.agg [v0, .int .i64 g.sy]]] := ⟨_, rfl⟩
  rw [← hX]
  have hx0 : ∀ H' : List AObj, H'.length = H.length → (H' ++ X)[H.length]? = some (.row 2 [.agg [v0, .int .i64 g.sy]]) := fun H' h => by rw [hX, List.getElem?_append_right (by omega)]; simp [h]
  simp -implicitDefEqProofs only [nP, oP, Option.bind_some, (ha.app X).off]
  unfold appendF
  cases hoff : d.off with
  | true =>
    simp -implicitDefEqProofs only [condK_t, if_true, List.append_nil]
    exact DM.same ha rfl
  | false =>
    simp -implicitDefEqProofs only [condK_f, Bool.false_eq_true, if_false, namedK, unA, Option.bind_some]
    cases hnm : namedF nm with
    | false =>
      simp -implicitDefEqProofs only [Bool.not_false, condK_t, List.append_nil, Bool.false_eq_true, if_false]
      exact DM.same ha rfl
    | true =>
      simp -implicitDefEqProofs only [Bool.not_true, condK_f, if_true, lenV_bys, Option.bind_some]
      rw [(Room_m ho).callX rfl ha X, pt_self ha]
      simp -implicitDefEqProofs only [gtr_int, Option.bind_some, splitK_dec]
      by_cases hr : roomOf d < (b.length : Int)
      · rw [if_pos hr, if_pos hr]
        exact DM.same ha rfl
      · rw [if_neg hr, if_neg hr]
        -- the body
        have body : ∀ E : List Nat, E = [] → ((loadA false 1 (.ptr H.length 1 0 0) (H ++ X)).bind fun a37 =>
          litK 1 2 .nils [(0, a37), (1, bys b)] (H ++ X) fun a38 H38 E38 =>
          callK (EV C) false n_Concat_byte [a38] H38 fun a39 H39 E39 =>
          stoK 1 (.ptr H.length 1 0 0) a39 H39 fun H41 E41 =>
          (loadA false 1 (.ptr D 1 0 1) H41).bind fun a44 =>
          (loadA true 2 (.ptr H.length 1 0 0) H41).bind fun a45 =>
          updK (some Go.TypeDesc.string) a44 (sv nm) a45 H41 fun H46 =>
          callK (EV C) false n_disk_Disk_step [.ptr D 1 0 0] H46 fun a47 H47 E47 =>
          (unA .not a47).bind fun a48 =>
          condK a48
            (endB false false H.length (.ifc t_api_Code (.int .i64 10)) H47 (E47 ++ (E41 ++ (E39 ++ (E38 ++ E)))))
            (endB false false H.length .nili H47 (E47 ++ (E41 ++ (E39 ++ (E38 ++ E)))))) = some (erA (stepE (putF d nm ⟨g.b ++ b, g.sy⟩)).1, pt H L D (stepE (putF d nm ⟨g.b ++ b, g.sy⟩)).2, []) := fun E hE => by
          subst hE
          rw [ld_fld (hx0 H rfl) rfl, Option.bind_some, lit2 g.b b v0 e3, callK_ok (by simp [goodL]) (Concat_byte_ok [g.b, b] (by simp) (by simp; omega))]
          rw [sto_fld (hx0 H rfl) (by simp) rfl rfl (bel_good _ _ (good_bys _))]
          rw [List.set_append_right _ _ (by omega), Nat.sub_self]
          obtain ⟨X2, hX2⟩ : ∃ X2, X2 = X.set 0 (AObj.row 2 [AV.agg ([v0, AV.int IntKind.i64 g.sy].set 0 (bys [g.b, b].flatten))]) := ⟨_, rfl⟩
          rw [← hX2]
          have hX2' : X2 = [AObj.row 2 [.agg [bys (g.b ++ b), .int .i64 g.sy]]] := by rw [hX2, hX]; simp
          have hx2 : (H ++ X2)[H.length]? = some (.row 2 [.agg [bys (g.b ++ b), .int .i64 g.sy]]) := by rw [hX2', List.getElem?_append_right (by omega)]; simp
          rw [(ha.app X2).fs, Option.bind_some, ld_all (n := 2) hx2 rfl, Option.bind_some]
          rw [show (AV.agg [bys (g.b ++ b), .int .i64 g.sy]) = Fil.av ⟨g.b ++ b, g.sy⟩ from rfl, (ha.app X2).upd nm _ (by omega), pt_app ha]
          rw [show ({ d with fs := putL nm ⟨g.b ++ b, g.sy⟩ d.fs } : Dk) = putF d nm ⟨g.b ++ b, g.sy⟩ from rfl]
          rw [(step_m _).callPX rfl ha X2]
          simp -implicitDefEqProofs only [unA, Option.bind_some, List.append_nil]
          unfold stepE
          cases (stepF (putF d nm ⟨g.b ++ b, g.sy⟩)).1 with
          | true =>
            simp -implicitDefEqProofs only [Bool.not_true, condK_f, if_true]
            exact DM.fin ha rfl
          | false =>
            simp -implicitDefEqProofs only [Bool.not_false, condK_t, Bool.false_eq_true, if_false]
            exact DM.fin ha rfl
        rw [← hg]
        cases hw : w with
        | true =>
          have hn : ¬ ((getL nm d.fs).isNone = true ∧ 8 ≤ d.fs.length) := fun h => by rw [hw, h.1] at e4; cases e4
          rw [if_neg hn]
          simp -implicitDefEqProofs only [unA, Bool.not_true, Option.bind_some, splitK_f, nP, oP, Nat.zero_add, Nat.add_zero]
          exact body _ rfl
        | false =>
          have hn : (getL nm d.fs).isNone = true := by rw [hw] at e4; cases hh : (getL nm d.fs).isNone <;> simp [hh] at e4 ⊢
          simp -implicitDefEqProofs only [unA, Bool.not_false, Option.bind_some, splitK_t, nP, oP, (ha.app X).fs, (ha.app X).len, geq_int, condK_dec, Nat.zero_add, Nat.add_zero]
          by_cases h9 : 8 ≤ d.fs.length
          · rw [if_pos (show (8 : Int) ≤ (d.fs.length : Int) by omega), if_pos ⟨hn, h9⟩]
            exact DM.same ha rfl
          · rw [if_neg (show ¬ (8 : Int) ≤ (d.fs.length : Int) by omega), if_neg (fun h => h9 h.2)]
            exact body _ rfl
end Go.Pm
namespace Go.Pm
open Go.Proofs
set_option linter.unusedVariables false
set_option linter.unusedSimpArgs false
theorem DM.finz {v u : AV} {H X : List AObj} {L D : Nat} {d0 d : Dk} (ha : At H L D d0) (hf : ∀ H', frz H' v = some u) (hk : kills v = []) (hg : u.good = true) : endB false false H.length v (pt H L D d ++ X) [] = some (u, pt H L D d, []) := by
  unfold endB endA
  rw [if_neg (by decide), hf]
  simp only [Option.map_some, Option.bind_some, hk, killAll, Bool.false_eq_true, if_false, bel_good _ u hg, List.all_nil, and_self, if_true]
  rw [List.take_left' (pt_len H L D d)]
theorem DM.samez {v u : AV} {H X : List AObj} {L D : Nat} {d : Dk} (ha : At H L D d) (hf : ∀ H', frz H' v = some u) (hk : kills v = []) (hg : u.good = true) : endB false false H.length v (H ++ X) [] = some (u, pt H L D d, []) := by
  have := DM.finz (X := X) (d := d) ha hf hk hg; rwa [pt_self ha] at this ⊢
theorem DM.samez0 {v u : AV} {H : List AObj} {L D : Nat} {d : Dk} (ha : At H L D d) (hf : ∀ H', frz H' v = some u) (hk : kills v = []) (hg : u.good = true) : endB false false H.length v H [] = some (u, pt H L D d, []) := by
  have := DM.samez (X := []) ha hf hk hg; rwa [List.append_nil] at this
theorem new2 {β : Type} {a b : AV} {H : List AObj} {K : AV → List AObj → List Nat → Option β} (h1 : [a, b].all AV.one = true) : newK (.agg [a, b]) H K = K (.ptr H.length 1 0 0) (H ++ [.row 2 [.agg [a, b]]]) [] := new_agg (by simp) h1
theorem DM.callS {f : FuncId} {args : List AV} {d : Dk} {v : AV} (h : DM f args d v d) (hg : goodL args = true) {β : Type} {H : List AObj} {L D : Nat} (ha : At H L D d) {K : AV → List AObj → List Nat → Option β} :
    callK (EV C) false f (.ptr D 1 0 0 :: args) H K = K v H [] := by rw [h.call hg ha, pt_self ha]
theorem er_frz (k : Int) (H : List AObj) : frz H (erA k) = some (erA k) := frz_good _ _ (er_good k)
theorem er_kills (k : Int) : kills (erA k) = [] := kills_good _ (er_good k)
theorem tup_good (l : List UInt8) (k : Int) : (AV.tup [bys l, erA k]).good = true := by
  have h1 := good_bys l
  have h2 := er_good k
  unfold AV.good goodL goodL goodL
  rw [h1, h2]; rfl
theorem tup_frz (k : Int) (H : List AObj) : frz H (.tup [.nils, erA k]) = some (.tup [bys [], erA k]) := by
  unfold frz frzL frzL frzL
  rw [er_frz]; rfl
theorem tup_kills (k : Int) : kills (.tup [.nils, erA k]) = [] := by
  unfold kills killsL killsL killsL
  rw [er_kills]; rfl
def readF (d : Dk) (nm : List UInt8) : List UInt8 := if thereF d nm = 0 then (fileOf nm d).b else []
theorem there_some {d : Dk} {nm : List UInt8} (h : thereF d nm = 0) : ∃ f, getL nm d.fs = some f ∧ d.off = false := by
  unfold thereF at h
  split at h
  · cases h
  · split at h
    · cases h
    · rename_i h1 h2
      cases hh : getL nm d.fs with
      | none => rw [hh] at h2; simp at h2
      | some f => exact ⟨f, rfl, by simpa using h1⟩
theorem sv_good (nm : List UInt8) : goodL [sv nm] = true := rfl
theorem Read_m {d : Dk} (ho : d.ok) (nm : List UInt8) : DM n_disk_Disk_Read [sv nm] d (.tup [bys (readF d nm), erA (thereF d nm)]) d := fun H L D ha => by
  refine disk_Disk_Read_of ?_
  have h1 := ho.s1; have h2 := ho.t
  dsimp only
  rw [(there_m d nm).callS (sv_good nm) ha]
  simp -implicitDefEqProofs only [er_neq, Option.bind_some, condK_dec]
  unfold readF
  by_cases h : thereF d nm = 0
  · rw [if_neg (fun q => q h), if_pos h]
    obtain ⟨f, hf, _⟩ := there_some h
    simp -implicitDefEqProofs only [nP, oP, Option.bind_some, ha.fs, ha.look, hf, lookL, Bool.false_eq_true, if_false]
    rw [show fldA false 1 0 f.av = some (bys f.b) from rfl, Option.bind_some]
    have hl := tot_get hf
    rw [callK_ok (by simp [goodL]) (Clone_byte_ok f.b (by omega))]
    rw [h]
    rw [show (fileOf nm d).b = f.b from by unfold fileOf; rw [hf]; rfl]
    exact DM.same0 ha (tup_good f.b 0)
  · rw [if_pos h, if_neg h]
    exact DM.samez0 (u := .tup [bys [], erA (thereF d nm)]) ha (tup_frz _) (tup_kills _) (tup_good _ _)
def syncF (d : Dk) (nm : List UInt8) : Int × Dk :=
  if thereF d nm = 0 then (if (stepF d).1 = true then (0, putF (stepF d).2 nm ⟨(fileOf nm d).b, (fileOf nm d).b.length⟩) else (10, (stepF d).2)) else (thereF d nm, d)
theorem step_fs (d : Dk) : (stepF d).2.fs = d.fs := by
  unfold stepF; dsimp only; split
  · split <;> rfl
  · rfl
theorem step_sz (d : Dk) : (stepF d).2.sz = d.sz := by
  unfold stepF; dsimp only; split
  · split <;> rfl
  · rfl
set_option maxHeartbeats 1000000 in
theorem Sync_m {d : Dk} (ho : d.ok) (nm : List UInt8) : DM n_disk_Disk_Sync [sv nm] d (erA (syncF d nm).1) (syncF d nm).2 := fun H L D ha => by
  refine disk_Disk_Sync_of ?_
  have h1 := ho.s1; have h2 := ho.t; have h8 := ho.n8
  dsimp only
  rw [(there_m d nm).callS (sv_good nm) ha]
  simp -implicitDefEqProofs only [er_neq, Option.bind_some, condK_dec]
  unfold syncF
  by_cases h : thereF d nm = 0
  · rw [if_neg (fun q => q h), if_pos h]
    obtain ⟨f, hf, _⟩ := there_some h
    have hfo : fileOf nm d = f := by unfold fileOf; rw [hf]; rfl
    rw [hfo, (step_m d).call rfl ha]
    simp -implicitDefEqProofs only [unA, Option.bind_some]
    cases hs : (stepF d).1 with
    | false =>
      simp -implicitDefEqProofs only [Bool.not_false, condK_t, Bool.false_eq_true, if_false, List.append_nil]
      exact DM.fin0 ha rfl
    | true =>
      have hp := ha.pt (stepF d).2
      have hf2 : getL nm (stepF d).2.fs = some f := by rw [step_fs]; exact hf
      simp -implicitDefEqProofs only [Bool.not_true, condK_f, if_true, nP, oP, Option.bind_some, hp.fs, hp.look, hf2, lookL, Bool.false_eq_true, if_false]
      rw [new2 rfl, pt_len]
      have hn : ∀ Y : AObj, (pt H L D (stepF d).2 ++ [Y])[H.length]? = some Y := fun Y => by
        rw [List.getElem?_append_right (by rw [pt_len]; omega), pt_len]; simp
      have hset : ∀ Y Z : AObj, (pt H L D (stepF d).2 ++ [Y]).set H.length Z = pt H L D (stepF d).2 ++ [Z] := fun Y Z => by
        rw [List.set_append_right _ _ (by rw [pt_len]; omega), pt_len]; simp
      refine Eq.trans (sto_all (hn _) rfl rfl rfl (belL_good _ _ (by simp [Fil.cs, goodL, AV.good]))) ?_
      rw [hset, oP, Option.bind_some, ld_fld (j := 0) (v := bys f.b) (hn (.row 2 [.agg f.cs])) rfl, Option.bind_some, lenV_bys, Option.bind_some, oP, Option.bind_some]
      rw [sto_fld (j := 1) (hn (.row 2 [.agg f.cs])) (by simp [Fil.cs]) rfl rfl rfl, hset]
      have hq := hp.app [AObj.row 2 [.agg (f.cs.set 1 (.int .i64 f.b.length))]]
      rw [hq.fs, Option.bind_some, ld_all (n := 2) (hn _) rfl, Option.bind_some]
      refine (hq.upd nm ⟨f.b, f.b.length⟩ (by rw [step_fs]; omega)).trans ?_
      rw [pt_app hp, pt_pt _ _ ha.lt]
      simp -implicitDefEqProofs only [List.append_nil]
      exact DM.fin ha rfl
  · rw [if_pos h, if_neg h]
    exact DM.same0 ha (er_good _)
theorem On_m (d : Dk) : DM n_disk_Disk_On [] d (.bool (!d.off)) d := fun H L D ha => by
  refine disk_Disk_On_of ?_
  simp -implicitDefEqProofs only [nP, oP, Option.bind_some, ha.off, unA]
  exact DM.same0 ha rfl
def removeF (d : Dk) (nm : List UInt8) : Int × Dk :=
  if thereF d nm = 0 then (if (stepF d).1 = true then (0, { (stepF d).2 with fs := delL nm d.fs }) else (10, (stepF d).2)) else (thereF d nm, d)
theorem Remove_m (d : Dk) (nm : List UInt8) : DM n_disk_Disk_Remove [sv nm] d (erA (removeF d nm).1) (removeF d nm).2 := fun H L D ha => by
  refine disk_Disk_Remove_of ?_
  dsimp only
  rw [(there_m d nm).callS (sv_good nm) ha]
  simp -implicitDefEqProofs only [er_neq, Option.bind_some, condK_dec]
  unfold removeF
  by_cases h : thereF d nm = 0
  · rw [if_neg (fun q => q h), if_pos h, (step_m d).call rfl ha]
    simp -implicitDefEqProofs only [unA, Option.bind_some]
    cases hs : (stepF d).1 with
    | false =>
      simp -implicitDefEqProofs only [Bool.not_false, condK_t, Bool.false_eq_true, if_false, List.append_nil]
      exact DM.fin0 ha rfl
    | true =>
      have hp := ha.pt (stepF d).2
      simp -implicitDefEqProofs only [Bool.not_true, condK_f, if_true, nP, oP, Option.bind_some, hp.fs, List.append_nil]
      rw [hp.del nm, pt_pt _ _ ha.lt, step_fs]
      exact DM.fin0 ha rfl
  · rw [if_pos h, if_neg h]
    exact DM.same0 ha (er_good _)
def renameF (d : Dk) (a b : List UInt8) : Int × Dk :=
  if d.off = false ∧ namedF b = false then (1, d)
  else if thereF d a = 0 then (if (stepF d).1 = true then (0, { (stepF d).2 with fs := putL b (fileOf a d) (delL a d.fs) }) else (10, (stepF d).2)) else (thereF d a, d)
theorem del_len {α β : Type} [DecidableEq α] (k : α) : ∀ l : List (α × β), (delL k l).length ≤ l.length
  | [] => Nat.le_refl _
  | p :: l => by
    unfold delL
    split
    · simp
    · simpa using del_len k l
set_option maxHeartbeats 1000000 in
theorem Rename_m {d : Dk} (ho : d.ok) (a b : List UInt8) : DM n_disk_Disk_Rename [sv a, sv b] d (erA (renameF d a b).1) (renameF d a b).2 := fun H L D ha => by
  refine disk_Disk_Rename_of ?_
  have h1 := ho.s1; have h2 := ho.t; have h8 := ho.n8
  have key : ∀ E : List Nat, E = [] → (callK (EV C) false n_disk_Disk_there [.ptr D 1 0 0, sv a] H fun a26 H26 E26 =>
    (binA .neq (Go.TypeDesc.interface #[("Error", 123)]) (cmpT Try.prog) true a26 .nili).bind fun a27 =>
    condK a27
      (endB false false H.length a26 H26 (E26 ++ E))
      (callK (EV C) false n_disk_Disk_step [.ptr D 1 0 0] H26 fun a28 H28 E28 =>
      (unA .not a28).bind fun a29 =>
      condK a29
        (endB false false H.length (.ifc t_api_Code (.int .i64 10)) H28 (E28 ++ (E26 ++ E)))
        ((nilA (.ptr D 1 0 0)).bind fun a30 =>
        (offA a30 1).bind fun a31 =>
        (loadA false 1 a31 H28).bind fun a32 =>
        (lookV (some Go.TypeDesc.string) (.agg [.nils, (.int .i64 0)]) false a32 (sv a) H28).bind fun a33 =>
        newK (.agg [.nils, (.int .i64 0)]) H28 fun a34 H34 E34 =>
        stoK 2 a34 a33 H34 fun H35 E35 =>
        (nilA (.ptr D 1 0 0)).bind fun a36 =>
        (offA a36 1).bind fun a37 =>
        (loadA false 1 a37 H35).bind fun a38 =>
        delK (some Go.TypeDesc.string) a38 (sv a) H35 fun H39 =>
        (nilA (.ptr D 1 0 0)).bind fun a40 =>
        (offA a40 1).bind fun a41 =>
        (loadA false 1 a41 H39).bind fun a42 =>
        (loadA true 2 a34 H39).bind fun a43 =>
        updK (some Go.TypeDesc.string) a42 (sv b) a43 H39 fun H44 =>
        endB false false H.length .nili H44 (E35 ++ (E34 ++ (E28 ++ (E26 ++ E))))))) = some (erA (if thereF d a = 0 then (if (stepF d).1 = true then (0, { (stepF d).2 with fs := putL b (fileOf a d) (delL a d.fs) }) else (10, (stepF d).2)) else (thereF d a, d) : Int × Dk).1, pt H L D (if thereF d a = 0 then (if (stepF d).1 = true then (0, { (stepF d).2 with fs := putL b (fileOf a d) (delL a d.fs) }) else (10, (stepF d).2)) else (thereF d a, d) : Int × Dk).2, []) := fun E hE => by
    subst hE
    rw [(there_m d a).callS (sv_good a) ha]
    simp -implicitDefEqProofs only [er_neq, Option.bind_some, condK_dec]
    by_cases h : thereF d a = 0
    · rw [if_neg (fun q => q h), if_pos h]
      obtain ⟨f, hf, _⟩ := there_some h
      have hfo : fileOf a d = f := by unfold fileOf; rw [hf]; rfl
      rw [hfo, (step_m d).call rfl ha]
      simp -implicitDefEqProofs only [unA, Option.bind_some]
      cases hs : (stepF d).1 with
      | false =>
        simp -implicitDefEqProofs only [Bool.not_false, condK_t, Bool.false_eq_true, if_false, List.append_nil]
        exact DM.fin0 ha rfl
      | true =>
        have hp := ha.pt (stepF d).2
        have hf2 : getL a (stepF d).2.fs = some f := by rw [step_fs]; exact hf
        simp -implicitDefEqProofs only [Bool.not_true, condK_f, if_true, nP, oP, Option.bind_some, hp.fs, hp.look, hf2, lookL, Bool.false_eq_true, if_false]
        rw [new2 rfl, pt_len]
        have hn : ∀ (d' : Dk) (Y : AObj), (pt H L D d' ++ [Y])[H.length]? = some Y := fun d' Y => by
          rw [List.getElem?_append_right (by rw [pt_len]; omega), pt_len]; simp
        refine Eq.trans (sto_all (hn _ _) rfl rfl rfl (belL_good _ _ (by simp [Fil.cs, goodL, AV.good]))) ?_
        rw [show (pt H L D (stepF d).2 ++ [AObj.row 2 [AV.agg [AV.nils, AV.int IntKind.i64 0]]]).set H.length (AObj.row 2 [AV.agg f.cs]) = pt H L D (stepF d).2 ++ [AObj.row 2 [.agg f.cs]] from by
          rw [List.set_append_right _ _ (by rw [pt_len]; omega), pt_len]; simp]
        have hq := hp.app [AObj.row 2 [.agg f.cs]]
        rw [hq.fs, Option.bind_some, hq.del a, pt_app hp, pt_pt _ _ ha.lt, step_fs]
        have hq2 := (ha.pt { (stepF d).2 with fs := delL a d.fs }).app [AObj.row 2 [.agg f.cs]]
        have hdl := del_len a d.fs
        refine (congrArg (fun x => Option.bind x _) hq2.fs).trans ?_
        rw [Option.bind_some]
        refine (congrArg (fun x => Option.bind x _) (ld_all (n := 2) (hn { (stepF d).2 with fs := delL a d.fs } (.row 2 [.agg f.cs])) rfl)).trans ?_
        rw [Option.bind_some]
        refine (hq2.upd b f (by show (delL a d.fs).length < _; omega)).trans ?_
        rw [pt_app (ha.pt _), pt_pt _ _ ha.lt]
        simp -implicitDefEqProofs only [List.append_nil]
        exact DM.fin ha rfl
    · rw [if_pos h, if_neg h]
      exact DM.same0 ha (er_good _)
  simp -implicitDefEqProofs only [nP, oP, Option.bind_some, ha.off, unA]
  unfold renameF
  cases hof : d.off with
  | true =>
    simp -implicitDefEqProofs only [Bool.not_true, splitK_f]
    rw [if_neg (fun h => by cases h.1)]
    have := key [] rfl
    simp -implicitDefEqProofs only [nP, oP, Option.bind_some, unA] at this
    exact this
  | false =>
    simp -implicitDefEqProofs only [Bool.not_false, splitK_t, namedK, Option.bind_some]
    cases hnm : namedF b with
    | false =>
      simp -implicitDefEqProofs only [Bool.not_false, condK_t, List.append_nil]
      rw [if_pos ⟨trivial, trivial⟩]
      exact DM.same0 ha rfl
    | true =>
      simp -implicitDefEqProofs only [Bool.not_true, condK_f]
      rw [if_neg (fun h => by cases h.2)]
      have := key ([] ++ []) rfl
      simp -implicitDefEqProofs only [nP, oP, Option.bind_some, unA] at this
      exact this
def newD (sz : Int) : Dk := ⟨sz, [], false, 0, false, 0⟩
theorem New_ok (sz : Int) (h0 : 0 ≤ sz) (h1 : sz ≤ 67108864) (H : List AObj) : EV C n_disk_New [.int .i64 sz] H = some (.tup [.ptr (H.length + 1) 1 0 0, .nili], H ++ [fobj [], drow H.length (newD sz)], []) := by
  refine disk_New_of ?_
  simp -implicitDefEqProofs only [lss_int, gtr_int, Option.bind_some, splitK_dec, condK_dec]
  rw [if_neg (by omega), if_neg (by omega)]
  unfold mpK
  refine (congrArg (fun x => Option.bind x _) (show fillB _ _ = some [.int .i64 sz, .mp H.length, .bool false, .int .i64 0, .bool false, .int .i64 0] from rfl)).trans ?_
  rw [Option.bind_some, new_agg (by simp) rfl]
  simp only [List.length_append, List.length_singleton, List.append_assoc]
  rfl
def namesF (d : Dk) : List (List UInt8) := sortL (d.fs.map (·.1))
def strs (l : List (List UInt8)) : AV := .lst (l.map sv)
theorem strs_good (l : List (List UInt8)) : (strs l).good = true := goodL_all.2 fun v hv => by
  obtain ⟨x, _, rfl⟩ := List.mem_map.1 hv; rfl
theorem keys_fs : ∀ fs : List (List UInt8 × Fil), (fs.map (entA sv Fil.av)).mapM keyL = some (fs.map (·.1))
  | [] => rfl
  | p :: fs => by
    rw [List.map_cons, List.mapM_cons, keys_fs fs]
    rfl
theorem Names_m {d : Dk} (h8 : d.fs.length ≤ 8) (hnl : ∀ p ∈ d.fs, p.1.length < 2^40) : DM n_disk_Disk_Names [] d (strs (namesF d)) d := fun H L D ha => by
  refine disk_Disk_Names_of ?_
  simp -implicitDefEqProofs only [nP, oP, Option.bind_some, ha.fs]
  have hk : EV C n_maps_Keys_disk_file [.mp L] H = some (.clo n_maps_Keys_map_string_disk_file_string_disk_file_1 [] [.ptr H.length 1 0 0], H ++ [.row 1 [.mp L]], []) := by
    refine maps_Keys_disk_file_of ?_
    rfl
  rw [callK_raw hk]
  have hs : EV C n_Sorted_string [.clo n_maps_Keys_map_string_disk_file_string_disk_file_1 [] [.ptr H.length 1 0 0]] (H ++ [.row 1 [.mp L]]) = some (strs (namesF d), H ++ [.row 1 [.mp L]], []) := by
    rw [EV_I C (F := sortF 51) rfl]
    have hm := (ha.app [.row 1 [.mp L]]).m
    unfold fobj mpo at hm
    simp only [sortF, if_true, List.getElem?_append_right (Nat.le_refl _), Nat.sub_self, List.getElem?_cons_zero, hm, keys_fs, Option.bind_some]
    rw [if_pos ⟨by simp; omega, List.all_eq_true.2 fun k hk => by
      obtain ⟨p, hp, rfl⟩ := List.mem_map.1 hk; exact decide_eq_true (hnl p hp)⟩]
    rfl
  unfold callK callA
  simp only [Bool.false_eq_true, if_false, frzL, frz, Option.bind_some, Option.map_some, belL, AV.bel, killsL, kills, killAll, List.append_nil, Bool.and_true, Nat.not_lt_zero, decide_false]
  rw [hs]
  exact DM.same ha (strs_good _)
end Go.Pm
namespace Go.Pm
open Go.Proofs
set_option linter.unusedVariables false
set_option linter.unusedSimpArgs false
def i64 (n : Int) : AV := .int .i64 n
theorem lenV_strs (l : List (List UInt8)) (H : List AObj) : lenV (strs l) H = some (.int .i64 l.length) := by simp [strs]
theorem ix_strs {l : List (List UInt8)} {i : Nat} (h : i < l.length) (H : List AObj) : ixA 1 (strs l) (.int .i64 (i : Int)) H = some (.ip [sv l[i]]) := by
  unfold strs
  exact ixA_lst (e := sv l[i]) (by omega) (by simp [h]) rfl
structure FilOk (f : Fil) : Prop where
  a : 0 ≤ f.sy
  b : f.sy ≤ f.b.length
  c : f.b.length < 2^41
theorem sort_mem {nm : List UInt8} {l : List (List UInt8)} : nm ∈ sortL l ↔ nm ∈ l := by
  unfold sortL; exact List.mem_mergeSort
theorem sort_len (l : List (List UInt8)) : (sortL l).length = l.length := by unfold sortL; exact List.length_mergeSort l
theorem mem_get {α β : Type} [DecidableEq α] {k : α} : ∀ {es : List (α × β)}, k ∈ es.map (·.1) → ∃ v, getL k es = some v ∧ (k, v) ∈ es
  | [], h => by cases h
  | p :: es, h => by
    unfold getL
    by_cases e : k = p.1
    · rw [if_pos e]; exact ⟨p.2, rfl, by rw [e]; exact List.mem_cons_self ..⟩
    · rw [if_neg e]
      simp only [List.map_cons, List.mem_cons] at h
      obtain ⟨v, h1, h2⟩ := mem_get (h.resolve_left e)
      exact ⟨v, h1, List.mem_cons_of_mem _ h2⟩
theorem ok_fil {d : Dk} (ho : d.ok) {nm : List UInt8} {f : Fil} (h : getL nm d.fs = some f) : FilOk f := by
  have h1 := ho.s1; have h2 := ho.t; have h3 := tot_get h
  have h4 := ho.sy _ (getL_mem h)
  exact ⟨h4.1, h4.2, by omega⟩
end Go.Pm
namespace Go.Pm
set_option linter.unusedVariables false
set_option linter.unusedSimpArgs false
theorem tot_put (nm : List UInt8) (f : Fil) : ∀ fs : List (List UInt8 × Fil), totF (putL nm f fs) + ((getL nm fs).getD ⟨[], 0⟩).b.length = totF fs + f.b.length
  | [] => by simp [putL, getL, totF]
  | p :: fs => by
    have ih := tot_put nm f fs
    unfold putL getL
    simp only [totF, List.map_cons, List.sum_cons] at ih ⊢
    split
    · simp only [List.map_cons, List.sum_cons, Option.getD_some]; omega
    · simp only [List.map_cons, List.sum_cons]; omega
theorem mem_put {nm : List UInt8} {f : Fil} : ∀ {fs : List (List UInt8 × Fil)} {p : List UInt8 × Fil}, p ∈ putL nm f fs → p = (nm, f) ∨ p ∈ fs
  | [], p, h => by simp only [putL, List.mem_singleton] at h; exact .inl h
  | q :: fs, p, h => by
    unfold putL at h
    split at h
    · rcases List.mem_cons.1 h with h | h
      · exact .inl h
      · exact .inr (List.mem_cons_of_mem _ h)
    · rcases List.mem_cons.1 h with h | h
      · exact .inr (by rw [h]; exact List.mem_cons_self ..)
      · exact (mem_put h).imp id (List.mem_cons_of_mem _)
theorem put_nd {nm : List UInt8} {f : Fil} {fs : List (List UInt8 × Fil)} (h : (fs.map (·.1)).Nodup) : ((putL nm f fs).map (·.1)).Nodup := by
  rw [putL_keys]
  split
  · rename_i hn
    rw [List.nodup_append]
    refine ⟨h, by simp, fun a ha b hb => ?_⟩
    simp only [List.mem_singleton] at hb
    subst hb
    obtain ⟨p, hp, rfl⟩ := List.mem_map.1 ha
    exact fun e => getL_none.1 hn p hp e
  · exact h
theorem put_len {nm : List UInt8} {f : Fil} : ∀ (fs : List (List UInt8 × Fil)), (putL nm f fs).length = if getL nm fs = none then fs.length + 1 else fs.length
  | [] => rfl
  | q :: fs => by
    unfold putL getL
    split
    · simp
    · simp only [List.length_cons, put_len fs]
      split <;> rfl
theorem del_sub {α β : Type} [DecidableEq α] (k : α) : ∀ l : List (α × β), (delL k l).Sublist l
  | [] => List.Sublist.refl _
  | p :: l => by
    unfold delL
    split
    · exact List.sublist_cons_self _ _
    · exact (del_sub k l).cons_cons _
theorem tot_sub {a b : List (List UInt8 × Fil)} (h : a.Sublist b) : totF a ≤ totF b := by
  induction h with
  | slnil => exact Nat.le_refl _
  | cons p h ih => simp only [totF, List.map_cons, List.sum_cons] at ih ⊢; omega
  | cons_cons p h ih => simp only [totF, List.map_cons, List.sum_cons] at ih ⊢; omega
theorem newD_ok {sz : Int} (h0 : 0 ≤ sz) (h1 : sz < 2^40) : (newD sz).ok := ⟨h0, h1, by simp [newD, totF]; exact h0, by simp [newD], by simp [newD], by simp [newD], by simp [newD]⟩
theorem stepD_ok {d : Dk} (h : d.ok) : (stepF d).2.ok := by
  have e1 := step_fs d; have e2 := step_sz d
  exact ⟨by rw [e2]; exact h.s0, by rw [e2]; exact h.s1, by rw [e1, e2]; exact h.t, by rw [e1]; exact h.nd, by rw [e1]; exact h.n8, by rw [e1]; exact h.sy, by rw [e1]; exact h.nl⟩
theorem put_ok {d : Dk} (h : d.ok) {nm : List UInt8} {f : Fil} (ht : (f.b.length : Int) ≤ (fileOf nm d).b.length + roomOf d) (h8 : getL nm d.fs = none → d.fs.length < 8) (hs : 0 ≤ f.sy ∧ f.sy ≤ f.b.length) (hn : nm.length < 2^40) : (putF d nm f).ok := by
  have t1 := tot_put nm f d.fs
  have t2 := h.t
  have t3 := h.n8
  unfold roomOf fileOf at ht
  refine ⟨h.s0, h.s1, ?_, put_nd h.nd, ?_, fun p hp => ?_, fun p hp => ?_⟩
  · show ((totF (putL nm f d.fs) : Nat) : Int) ≤ d.sz; omega
  · show (putL nm f d.fs).length ≤ 8
    rw [put_len]; split
    · have := h8 ‹_›; omega
    · exact t3
  · rcases mem_put hp with rfl | hp
    · exact hs
    · exact h.sy p hp
  · rcases mem_put hp with rfl | hp
    · exact hn
    · exact h.nl p hp
theorem named_len {nm : List UInt8} (h : namedF nm = true) : nm.length < 2^40 := by
  unfold namedF at h
  simp only [Bool.and_eq_true, decide_eq_true_eq] at h
  omega
theorem file_ok {d : Dk} (h : d.ok) (nm : List UInt8) : 0 ≤ (fileOf nm d).sy ∧ (fileOf nm d).sy ≤ (fileOf nm d).b.length := by
  unfold fileOf
  cases hg : getL nm d.fs with
  | none => simp
  | some f => exact h.sy _ (getL_mem hg)
theorem append_ok' {d : Dk} (h : d.ok) (nm b : List UInt8) : (appendF d nm b).2.ok := by
  unfold appendF
  split
  · exact h
  · split
    · split
      · exact h
      · rename_i hr
        split
        · exact h
        · rename_i hn
          have hf := file_ok h nm
          refine stepD_ok (put_ok h (by simp only [List.length_append]; omega) (fun e => ?_) ⟨hf.1, by simp only [List.length_append]; omega⟩ (named_len ‹_›))
          rw [e] at hn
          simp only [Option.isNone_none, true_and] at hn
          omega
    · exact h
theorem get_of_there {d : Dk} {nm : List UInt8} (h : thereF d nm = 0) : getL nm d.fs = some (fileOf nm d) := by
  obtain ⟨f, hf, _⟩ := there_some h
  unfold fileOf; rw [hf]; rfl
theorem file_step (d : Dk) (nm : List UInt8) : fileOf nm (stepF d).2 = fileOf nm d := by unfold fileOf; rw [step_fs]
theorem room_nn {d : Dk} (h : d.ok) : 0 ≤ roomOf d := by have := h.t; unfold roomOf; omega
theorem sync_ok {d : Dk} (h : d.ok) (nm : List UInt8) : (syncF d nm).2.ok := by
  unfold syncF
  split
  · rename_i ht
    split
    · have hs := stepD_ok h
      have hr := room_nn hs
      refine put_ok hs ?_ (fun e => ?_) ⟨by simp, by simp⟩ (h.nl _ (getL_mem (get_of_there ht)))
      · rw [file_step]; show ((fileOf nm d).b.length : Int) ≤ _; omega
      · rw [step_fs, get_of_there ht] at e; cases e
    · exact stepD_ok h
  · exact h
theorem subD_ok {d d' : Dk} (h : d.ok) (hs : d'.fs.Sublist d.fs) (e : d'.sz = d.sz) : d'.ok := by
  have h1 := tot_sub hs; have h2 := h.t; have h3 := hs.length_le; have h4 := h.n8
  exact ⟨by rw [e]; exact h.s0, by rw [e]; exact h.s1, by rw [e]; omega, (hs.map _).nodup h.nd, by omega, fun p hp => h.sy p (hs.subset hp), fun p hp => h.nl p (hs.subset hp)⟩
theorem remove_ok {d : Dk} (h : d.ok) (nm : List UInt8) : (removeF d nm).2.ok := by
  unfold removeF
  split
  · split
    · exact subD_ok h (del_sub nm d.fs) (step_sz d)
    · exact stepD_ok h
  · exact h
theorem tot_del {nm : List UInt8} {f : Fil} : ∀ {fs : List (List UInt8 × Fil)}, getL nm fs = some f → totF (delL nm fs) + f.b.length = totF fs ∧ (delL nm fs).length + 1 = fs.length
  | [], h => by cases h
  | p :: fs, h => by
    unfold getL at h
    unfold delL
    split at h
    · rename_i e
      injection h with h; subst h
      rw [if_pos e]
      refine ⟨?_, ?_⟩
      · simp only [totF, List.map_cons, List.sum_cons]; omega
      · simp only [List.length_cons]
    · rename_i e
      rw [if_neg e]
      obtain ⟨h1, h2⟩ := tot_del h
      simp only [totF, List.map_cons, List.sum_cons, List.length_cons] at h1 ⊢
      omega
theorem rename_ok {d : Dk} (h : d.ok) (a b : List UInt8) : (renameF d a b).2.ok := by
  unfold renameF
  split
  · exact h
  · rename_i hnm
    split
    · rename_i ht
      split
      · have hg := get_of_there ht
        have hnm' : namedF b = true := by
          obtain ⟨_, _, hof⟩ := there_some ht
          cases hb : namedF b with
          | true => rfl
          | false => exact absurd ⟨hof, hb⟩ hnm
        obtain ⟨t1, t2⟩ := tot_del hg
        have hs : ({ (stepF d).2 with fs := delL a d.fs } : Dk).ok := subD_ok h (del_sub a d.fs) (step_sz d)
        have h8 := h.n8; have htt := h.t
        have hf := h.sy _ (getL_mem hg)
        refine put_ok hs (f := fileOf a d) (nm := b) ?_ (fun _ => by show (delL a d.fs).length < 8; omega) hf (named_len hnm')
        unfold roomOf
        show ((fileOf a d).b.length : Int) ≤ _ + ((stepF d).2.sz - (totF (delL a d.fs) : Nat))
        rw [step_sz]
        omega
      · exact stepD_ok h
    · exact h
end Go.Pm
namespace Go.Pm
open Go.Proofs
set_option linter.unusedVariables false
set_option linter.unusedSimpArgs false
theorem Frame_long (l : List UInt8) (h : 2097152 < l.length) (hl : l.length < 2^62) : EV C n_wal_Frame [bys l] [] = some (.tup [bys [], erA 2], [], []) := by
  refine wal_Frame_of ?_
  simp only [lenV_bys, Option.bind_some, gtr_int, condK_dec]
  rw [if_pos (by omega)]
  exact endB_frz (u := .tup [bys [], erA 2]) rfl rfl
def longL (l : List UInt8) : Bool := decide (2097152 < l.length)
def longs (ls : List (List UInt8)) : Bool := ls.any longL
def framesF (ls : List (List UInt8)) : List UInt8 := (ls.map frame).flatten
theorem framesF_cons (l : List UInt8) (ls : List (List UInt8)) : framesF (l :: ls) = frame l ++ framesF ls := by simp [framesF]
theorem frame_len (l : List UInt8) : (frame l).length = 8 + l.length := by simp [frame, fourL]; omega
def resW (ls : List (List UInt8)) : List UInt8 × Int := if longs ls = true then ([], 2) else (framesF ls, 0)
theorem wal_frames_loop (ls : List (List UInt8)) (hl : ls.length < 2^62) (hm : ∀ l ∈ ls, l.length < 2^62) : ∀ (m i : Nat) (out : List UInt8) (E : List Nat), i + m = ls.length → out.length + (framesF (ls.drop i)).length ≤ 2^46 →
    wal_frames_J3 0 (.slc 0 0 out.length out.length) (.lst (ls.map bys)) (.int .i64 ls.length) (.int .i64 i) [vro 1 (out.map u8)] E = some (.tup [bys (if longs (ls.drop i) = true then [] else out ++ framesF (ls.drop i)), erA (if longs (ls.drop i) = true then 2 else 0)], [], [])
  | 0, i, out, E, h, ht => by
    refine wal_frames_J3_of ?_
    simp only [lss_int, Option.bind_some, condK_dec]
    rw [if_neg (by omega), List.drop_eq_nil_of_le (by omega)]
    simp only [longs, List.any_nil, Bool.false_eq_true, if_false, framesF, List.map_nil, List.flatten_nil, List.append_nil]
    exact endB_frz (frz_tup (frzL_cons (frz_vro (z := 1) rfl (List.length_map _).symm (goodL_u8 _)) (frzL_cons rfl rfl))) (tup_good _ _)
  | m + 1, i, out, E, h, ht => by
    have hi : i < ls.length := by omega
    have e3 : IntKind.i64.wrap ((i : Int) + 1) = ((i + 1 : Nat) : Int) := w64 (by omega) (by omega)
    refine wal_frames_J3_of ?_
    simp only [lss_int, Option.bind_some, condK_dec]
    have hd : ls.drop i = ls[i] :: ls.drop (i + 1) := List.drop_eq_getElem_cons hi
    rw [hd, framesF_cons, List.length_append, frame_len] at ht
    rw [if_pos (by omega), ixA_map (f := bys) (fun _ => rfl) (List.getElem?_eq_getElem hi), Option.bind_some, loadA_ip1, Option.bind_some, hd]
    by_cases hg : 2097152 < ls[i].length
    · rw [callK_ok (by simp) (Frame_long _ hg (hm _ (List.getElem_mem hi)))]
      have hlg : longs (ls[i] :: ls.drop (i + 1)) = true := by simp only [longs, List.any_cons, longL, decide_eq_true hg, Bool.true_or]
      simp only [extA_0, extA_1, Option.bind_some, er_neq, condK_dec, hlg, if_true]
      rw [if_pos (by decide)]
      exact endB_frz (tup_frz 2 _) (tup_good _ _)
    · rw [callK_ok (by simp) (wal_Frame_ok _ (by omega))]
      have hlg : longs (ls[i] :: ls.drop (i + 1)) = longs (ls.drop (i + 1)) := by simp only [longs, List.any_cons, longL, decide_eq_false hg, Bool.false_or]
      have e0 : ∀ ms c, binA .neq (.interface ms) c true .nili .nili = some (.bool false) := fun _ _ => rfl
      simp only [extA_0, extA_1, Option.bind_some, e0, condK_f, hlg, framesF_cons]
      rw [appK_vro (n := out.length) (es := out.map u8) (ys := (frame ls[i]).map u8) rfl rfl (List.length_map _).symm (lz_u8 _) (by decide) (by decide) (by decide) (by rw [List.length_map, frame_len]; omega)]
      simp only [add_int, Option.bind_some, e3]
      have := wal_frames_loop ls hl hm m (i + 1) (out ++ frame ls[i]) (((if ((frame ls[i]).map u8).isEmpty = true then [] else escs 0 ((frame ls[i]).map u8)) ++ ([] ++ [])) ++ E) (by omega) (by rw [List.length_append, frame_len]; omega)
      rw [List.map_append, List.length_append, List.append_assoc out] at this
      rw [List.length_map]
      exact this
theorem wal_frames_ok (ls : List (List UInt8)) (hl : ls.length < 2^62) (hm : ∀ l ∈ ls, l.length < 2^62) (ht : (framesF ls).length ≤ 2^46) : EV C n_wal_frames [.lst (ls.map bys)] [] = some (.tup [bys (resW ls).1, erA (resW ls).2], [], []) := by
  refine wal_frames_of ?_
  have hlen : ∀ H, lenV (.lst (ls.map bys)) H = some (.int .i64 ls.length) := fun H => by simp
  simp only [hlen, Option.bind_some]
  refine (wal_frames_loop ls hl hm ls.length 0 [] [] (by omega) (by simpa using ht)).trans ?_
  unfold resW
  rw [List.drop_zero, List.nil_append]
  split <;> rfl
theorem Index_loop (l : List (List UInt8)) (hl : l.length < 2^62) (x : List UInt8) : ∀ (m i : Nat) (E : List Nat), i + m = l.length →
    ∃ k : Int, Index_string_J2 0 (strs l) (sv x) (.int .i64 l.length) (.int .i64 i) [] E = some (.int .i64 k, [], []) ∧ (0 ≤ k ↔ (l.drop i).contains x = true)
  | 0, i, E, h => ⟨-1, by
    refine Index_string_J2_of ?_
    simp only [lss_int, Option.bind_some, condK_dec]
    rw [if_neg (by omega)]
    exact endB_good rfl, by rw [List.drop_eq_nil_of_le (by omega)]; simp⟩
  | m + 1, i, E, h => by
    have hi : i < l.length := by omega
    have e3 : IntKind.i64.wrap ((i : Int) + 1) = ((i + 1 : Nat) : Int) := w64 (by omega) (by omega)
    have hd : l.drop i = l[i] :: l.drop (i + 1) := List.drop_eq_getElem_cons hi
    have go : ∀ r, ((binA .eql Go.TypeDesc.string (cmpT Try.prog) false (sv x) (sv l[i])).bind fun a4 => condK a4 (endB false false 0 (.int .i64 (i : Int)) [] E) ((binA .add (Go.TypeDesc.int Go.IntKind.i64) (cmpT Try.prog) true (.int .i64 (i : Int)) (.int .i64 1)).bind fun a5 => Index_string_J2 0 (strs l) (sv x) (.int .i64 l.length) a5 [] E)) = some r → Index_string_J2 0 (strs l) (sv x) (.int .i64 l.length) (.int .i64 i) [] E = some r := fun r hr => by
      refine Index_string_J2_of ?_
      simp only [lss_int, Option.bind_some, condK_dec]
      rw [if_pos (by omega), ix_strs hi, Option.bind_some, show ∀ H', loadA false 1 (.ip [sv l[i]]) H' = some (sv l[i]) from fun _ => rfl, Option.bind_some]
      exact hr
    have e4 : binA .eql Go.TypeDesc.string (cmpT Try.prog) false (sv x) (sv l[i]) = some (.bool (decide (x = l[i]))) := eql_str ..
    by_cases hx : x = l[i]
    · refine ⟨i, go _ ?_, by rw [hd, List.contains_cons, hx]; simp only [BEq.rfl, Bool.true_or, iff_true]; omega⟩
      rw [e4, Option.bind_some, decide_eq_true hx, condK_t]
      exact endB_good rfl
    · obtain ⟨k, h1, h2⟩ := Index_loop l hl x m (i + 1) E (by omega)
      refine ⟨k, go _ ?_, ?_⟩
      · rw [e4, Option.bind_some, decide_eq_false hx, condK_f, add_int, Option.bind_some, e3]
        exact h1
      · rw [h2, hd, List.contains_cons, show (x == l[i]) = false by simpa using hx, Bool.false_or]
theorem Contains_ok (l : List (List UInt8)) (hl : l.length < 2^62) (x : List UInt8) : EV C n_Contains_string [strs l, sv x] [] = some (.bool (l.contains x), [], []) := by
  refine Contains_string_of ?_
  obtain ⟨k, h1, h2⟩ := Index_loop l hl x l.length 0 [] (by omega)
  have h3 : EV C n_Index_string [strs l, sv x] [] = some (.int .i64 k, [], []) := by
    refine Index_string_of ?_
    dsimp only
    rw [lenV_strs, Option.bind_some]
    exact h1
  dsimp only
  rw [callK_ok (by simp [goodL, strs_good, sv, AV.good]) h3, geq_int, Option.bind_some]
  refine (endB_good rfl).trans ?_
  rw [List.drop_zero] at h2
  congr 3
  rw [Bool.eq_iff_iff]; simp only [decide_eq_true_eq]; exact h2
def wrow (D : Nat) : AObj := .row 1 [.agg [.ptr D 1 0 0]]
structure Wt (H : List AObj) (L D W : Nat) (d : Dk) : Prop where
  a : At H L D d
  w : H[W]? = some (wrow D)
  lt : D < W
section
variable {β : Type} {H : List AObj} {L D W : Nat} {d d0 : Dk}
theorem Wt.ld (h : Wt H L D W d) : loadA false 1 (.ptr W 1 0 0) H = some (.ptr D 1 0 0) := ld_fld h.w rfl
theorem Wt.pt (h : Wt H L D W d0) (d : Dk) : Wt (pt H L D d) L D W d := by
  have h1 := h.a.lt; have h2 := h.lt
  refine ⟨h.a.pt d, ?_, h.lt⟩
  unfold Go.Pm.pt
  rw [List.getElem?_set_ne (by omega), List.getElem?_set_ne (by omega)]
  exact h.w
end
def WM (f : FuncId) (args : List AV) (d : Dk) (v : AV) (d' : Dk) : Prop := ∀ (H : List AObj) (L D W : Nat), Wt H L D W d → EV C f (.ptr W 1 0 0 :: args) H = some (v, pt H L D d', [])
theorem WM.call {f : FuncId} {args : List AV} {d d' : Dk} {v : AV} (h : WM f args d v d') (hg : goodL args = true) {β : Type} {H : List AObj} {L D W : Nat} (ha : Wt H L D W d) {K : AV → List AObj → List Nat → Option β} :
    callK (EV C) false f (.ptr W 1 0 0 :: args) H K = K v (Go.Pm.pt H L D d') [] := by
  have e1 : frzL H (.ptr W 1 0 0 :: args) = some (.ptr W 1 0 0 :: args) := by simp only [frzL, frz, Option.bind_some, frzL_good H args hg, Option.map_some]
  have e2 : belL 0 (.ptr W 1 0 0 :: args) = false := by simp [belL, AV.bel]
  have e3 : killsL (.ptr W 1 0 0 :: args) = [] := by simp [killsL, kills, killsL_good args hg]
  unfold callK callA
  simp only [Bool.false_eq_true, if_false, e1, Option.bind_some, e2, e3, killAll, h H L D W ha]
def nNew : List UInt8 := [110, 101, 119]
def nLog : List UInt8 := [108, 111, 103]
theorem sort_contains (d : Dk) (x : List UInt8) : (namesF d).contains x = (getL x d.fs).isSome := by
  unfold namesF
  rw [Bool.eq_iff_iff]
  simp only [List.contains_iff_mem, sort_mem]
  constructor
  · intro h
    obtain ⟨v, h1, _⟩ := mem_get h
    rw [h1]; rfl
  · intro h
    obtain ⟨v, hv⟩ := Option.isSome_iff_exists.1 h
    exact List.mem_map.2 ⟨_, getL_mem hv, rfl⟩
def cleanF (d : Dk) : Int × Dk := if (getL nNew d.fs).isSome = true then removeF d nNew else (0, d)
theorem clean_m {d : Dk} (ho : d.ok) : WM n_wal_Wal_clean [] d (erA (cleanF d).1) (cleanF d).2 := fun H L D W ha => by
  refine wal_Wal_clean_of ?_
  have h8 := ho.n8
  simp -implicitDefEqProofs only [nP, oP, Option.bind_some, ha.ld]
  rw [(Names_m ho.n8 ho.nl).callS rfl ha.a]
  rw [callK_ok (by simp [goodL, strs_good, sv, AV.good]) (show EV C n_Contains_string [strs (namesF d), .str { data := #[110, 101, 119] }] [] = _ from Contains_ok (namesF d) (by unfold namesF; rw [sort_len, List.length_map]; omega) nNew)]
  rw [sort_contains]
  unfold cleanF
  cases hg : (getL nNew d.fs).isSome with
  | false =>
    simp -implicitDefEqProofs only [unA, Option.bind_some, Bool.not_false, condK_t, Bool.false_eq_true, if_false]
    exact DM.same0 ha.a rfl
  | true =>
    simp -implicitDefEqProofs only [unA, Option.bind_some, Bool.not_true, condK_f, if_true, nP, oP, ha.ld]
    rw [show (AV.str { data := #[110, 101, 119] }) = sv nNew from rfl, (Remove_m d nNew).call rfl ha.a]
    exact DM.fin0 ha.a (er_good _)
theorem clean_ok {d : Dk} (h : d.ok) : (cleanF d).2.ok := by
  unfold cleanF
  split
  · exact remove_ok h nNew
  · exact h
def writeF (d : Dk) (ls : List (List UInt8)) : Int × Dk :=
  if longs ls = true then (2, d) else if (appendF d nLog (framesF ls)).1 = 0 then syncF (appendF d nLog (framesF ls)).2 nLog else appendF d nLog (framesF ls)
theorem Write_m {d : Dk} (ho : d.ok) (ls : List (List UInt8)) (hl : ls.length < 2^62) (hm : ∀ l ∈ ls, l.length < 2^62) (ht : (framesF ls).length ≤ 2^45) : WM n_wal_Wal_Write [.lst (ls.map bys)] d (erA (writeF d ls).1) (writeF d ls).2 := fun H L D W ha => by
  refine wal_Wal_Write_of ?_
  dsimp only
  rw [callK_ok (by simp) (wal_frames_ok ls hl hm (by omega))]
  unfold writeF resW
  by_cases hg : longs ls = true
  · simp -implicitDefEqProofs only [hg, if_true, extA_0, extA_1, Option.bind_some, er_neq, condK_dec]
    rw [if_pos (by decide)]
    exact DM.same0 ha.a rfl
  · simp -implicitDefEqProofs only [hg, Bool.false_eq_true, if_false, extA_0, extA_1, Option.bind_some, er_neq, condK_dec]
    rw [if_neg (by decide)]
    simp -implicitDefEqProofs only [nP, oP, Option.bind_some, ha.ld]
    rw [show (AV.str { data := #[108, 111, 103] }) = sv nLog from rfl, (Append_m ho nLog (framesF ls) ht).call (by simp [goodL, sv, AV.good]) ha.a]
    simp -implicitDefEqProofs only [er_neq, Option.bind_some, condK_dec]
    by_cases h0 : (appendF d nLog (framesF ls)).1 = 0
    · rw [if_neg (fun q => q h0), if_pos h0]
      simp -implicitDefEqProofs only [nP, oP, Option.bind_some, (ha.pt _).ld]
      rw [(Sync_m (append_ok' ho nLog _) nLog).callP rfl ha.a]
      exact DM.fin0 ha.a (er_good _)
    · rw [if_pos h0, if_neg h0]
      exact DM.fin0 ha.a (er_good _)
theorem writeF_ok {d : Dk} (h : d.ok) (ls : List (List UInt8)) : (writeF d ls).2.ok := by
  unfold writeF
  split
  · exact h
  · split
    · exact sync_ok (append_ok' h _ _) _
    · exact append_ok' h _ _
def replaceF (d : Dk) (ls : List (List UInt8)) : Int × Dk :=
  if longs ls = true then (2, d) else if (cleanF d).1 = 0 then
    (if (appendF (cleanF d).2 nNew (framesF ls)).1 = 0 then
      (if (syncF (appendF (cleanF d).2 nNew (framesF ls)).2 nNew).1 = 0 then renameF (syncF (appendF (cleanF d).2 nNew (framesF ls)).2 nNew).2 nNew nLog
      else syncF (appendF (cleanF d).2 nNew (framesF ls)).2 nNew)
    else appendF (cleanF d).2 nNew (framesF ls))
  else cleanF d
theorem Replace_m {d : Dk} (ho : d.ok) (ls : List (List UInt8)) (hl : ls.length < 2^62) (hm : ∀ l ∈ ls, l.length < 2^62) (ht : (framesF ls).length ≤ 2^45) : WM n_wal_Wal_Replace [.lst (ls.map bys)] d (erA (replaceF d ls).1) (replaceF d ls).2 := fun H L D W ha => by
  refine wal_Wal_Replace_of ?_
  dsimp only
  rw [callK_ok (by simp) (wal_frames_ok ls hl hm (by omega))]
  unfold replaceF resW
  have hlt := ha.a.lt
  by_cases hg : longs ls = true
  · simp -implicitDefEqProofs only [hg, if_true, extA_0, extA_1, Option.bind_some, er_neq, condK_dec]
    rw [if_pos (by decide)]
    exact DM.same0 ha.a rfl
  · simp -implicitDefEqProofs only [hg, Bool.false_eq_true, if_false, extA_0, extA_1, Option.bind_some, er_neq, condK_dec]
    rw [if_neg (by decide), (clean_m ho).call rfl ha]
    simp -implicitDefEqProofs only [er_neq, Option.bind_some, condK_dec]
    have hc := clean_ok ho
    generalize hC : cleanF d = c at hc ⊢
    by_cases h0 : c.1 = 0
    · rw [if_neg (fun q => q h0), if_pos h0]
      simp -implicitDefEqProofs only [nP, oP, Option.bind_some, (ha.pt _).ld]
      rw [show (AV.str { data := #[110, 101, 119] }) = sv nNew from rfl, show (AV.str { data := #[108, 111, 103] }) = sv nLog from rfl, (Append_m hc nNew (framesF ls) ht).callP (by simp [goodL, sv, AV.good]) ha.a]
      simp -implicitDefEqProofs only [er_neq, Option.bind_some, condK_dec]
      have hc1 := append_ok' hc nNew (framesF ls)
      generalize hA : appendF c.2 nNew (framesF ls) = a at hc1 ⊢
      by_cases h1 : a.1 = 0
      · rw [if_neg (fun q => q h1), if_pos h1]
        simp -implicitDefEqProofs only [nP, oP, Option.bind_some, (ha.pt _).ld]
        rw [(Sync_m hc1 nNew).callP rfl ha.a]
        simp -implicitDefEqProofs only [er_neq, Option.bind_some, condK_dec]
        have hc2 := sync_ok hc1 nNew
        generalize hS : syncF a.2 nNew = s at hc2 ⊢
        by_cases h2 : s.1 = 0
        · rw [if_neg (fun q => q h2), if_pos h2]
          simp -implicitDefEqProofs only [nP, oP, Option.bind_some, (ha.pt _).ld]
          rw [(Rename_m hc2 nNew nLog).callP rfl ha.a]
          exact DM.fin0 ha.a (er_good _)
        · rw [if_pos h2, if_neg h2]
          exact DM.fin0 ha.a (er_good _)
      · rw [if_pos h1, if_neg h1]
        exact DM.fin0 ha.a (er_good _)
    · rw [if_pos h0, if_neg h0]
      exact DM.fin0 ha.a (er_good _)
theorem replaceF_ok {d : Dk} (h : d.ok) (ls : List (List UInt8)) : (replaceF d ls).2.ok := by
  unfold replaceF
  split
  · exact h
  · split
    · split
      · split
        · exact rename_ok (sync_ok (append_ok' (clean_ok h) _ _) _) _ _
        · exact sync_ok (append_ok' (clean_ok h) _ _) _
      · exact append_ok' (clean_ok h) _ _
    · exact clean_ok h
end Go.Pm
namespace Go.Pm
open Go.Proofs
set_option linter.unusedVariables false
set_option linter.unusedSimpArgs false
theorem recAt_some {b : List UInt8} {p : Nat} {r : List UInt8} (h : recAt b p = some r) : p + 8 + r.length ≤ b.length ∧ r.length ≤ 2097152 := by
  unfold recAt at h
  split at h
  · dsimp only at h
    split at h
    · rename_i h1 h2
      split at h
      · injection h with h
        subst h
        rw [sub_len (by omega)]
        omega
      · cases h
    · cases h
  · cases h
theorem scan_len (b : List UInt8) : ∀ m p, p ≤ b.length → (framesF (scanF b m p).1).length + p = (scanF b m p).2 ∧ (scanF b m p).2 ≤ b.length ∧ (∀ r ∈ (scanF b m p).1, r.length ≤ 2097152) ∧ (scanF b m p).1.length + p ≤ (scanF b m p).2
  | 0, p, h => ⟨by simp [scanF, framesF], h, (fun r hr => by cases hr), by simp [scanF]⟩
  | m + 1, p, h => by
    unfold scanF
    cases hr : recAt b p with
    | none => exact ⟨by simp [framesF], h, (fun r hr => by cases hr), by simp⟩
    | some r =>
      obtain ⟨h1, h2⟩ := recAt_some hr
      obtain ⟨h3, h4, h5, h6⟩ := scan_len b m (p + 8 + r.length) (by omega)
      dsimp only
      refine ⟨?_, h4, ?_, ?_⟩
      · rw [framesF_cons, List.length_append, frame_len]; omega
      · intro x hx
        rcases List.mem_cons.1 hx with rfl | hx
        · exact h2
        · exact h5 x hx
      · rw [List.length_cons]; omega
theorem step_on {d : Dk} (h : d.off = false) : (stepF d).1 = !(stepF d).2.off := by
  unfold stepF
  split
  · split
    · rfl
    · show true = !d.off; rw [h]; rfl
  · show true = !d.off; rw [h]; rfl
theorem remove_on {d : Dk} {nm : List UInt8} (h : d.off = false) (h0 : (removeF d nm).1 = 0) : (removeF d nm).2.off = false := by
  unfold removeF at h0 ⊢
  have hs := step_on h
  split at h0
  · split at h0
    · rename_i h1 h2
      rw [if_pos h1, if_pos h2]
      show (stepF d).2.off = false
      rw [h2] at hs; simpa using hs.symm
    · cases h0
  · rename_i h1; exact absurd h0 h1
theorem clean_on {d : Dk} (h : d.off = false) (h0 : (cleanF d).1 = 0) : (cleanF d).2.off = false := by
  unfold cleanF at h0 ⊢
  split
  · rename_i hg; rw [if_pos hg] at h0; exact remove_on h h0
  · exact h
def logF (d : Dk) : List UInt8 := readF d nLog
def scanD (d : Dk) : List (List UInt8) × Nat := scanF (logF d) (logF d).length 0
def openX (d : Dk) : Int × List (List UInt8) × Dk :=
  if (scanD d).2 < (logF d).length then
    (if (replaceF d (scanD d).1).1 = 0 then (0, (scanD d).1, (replaceF d (scanD d).1).2) else ((replaceF d (scanD d).1).1, [], (replaceF d (scanD d).1).2))
  else (0, (scanD d).1, d)
def openF (d : Dk) : Int × List (List UInt8) × Dk := if (cleanF d).1 = 0 then openX (cleanF d).2 else ((cleanF d).1, [], (cleanF d).2)
theorem log_len {d : Dk} (h : d.ok) : (logF d).length < 2^40 := by
  unfold logF readF
  split
  · rename_i ht
    obtain ⟨f, hf, _⟩ := there_some ht
    have := ok_fil h hf
    rw [show (fileOf nLog d).b = f.b from by unfold fileOf; rw [hf]; rfl]
    have h1 := h.s1; have h2 := h.t; have h3 := tot_get hf
    omega
  · simp
def openV (W : Nat) (r : Int × List (List UInt8) × Dk) : AV := if r.1 = 0 then .tup [.ptr W 1 0 0, .lst (r.2.1.map bys), .nili] else .tup [.nilp, .nils, erA r.1]
theorem isF_9 (H : List AObj) : isF 44 [.ifc t_api_Code (.int .i64 9), .ifc t_api_Code (.int .i64 9)] H = some (.bool true, H, []) := rfl
theorem Is_9 (H : List AObj) : EV C n_errors_Is [.ifc t_api_Code (.int .i64 9), .ifc t_api_Code (.int .i64 9)] H = some (.bool true, H, []) := by
  rw [EV_I C (F := isF 44) rfl]; exact isF_9 H
theorem raw_end {n : Nat} {v : AV} {H : List AObj} : endB true true n v H [] = some (v, H, []) := by simp [endB_raw]
/-- what comes after the log has been read -/
theorem open_rest {d : Dk} (ho : d.ok) {H : List AObj} {L D W n : Nat} (ha : Wt H L D W d) :
    (callK (EV C) false n_wal_Scan [bys (logF d)] H fun a21 H21 E21 =>
      (extA a21 0).bind fun a22 =>
      (extA a21 1).bind fun a23 =>
      (lenV (bys (logF d)) H21).bind fun a24 =>
      (binA .lss (Go.TypeDesc.int Go.IntKind.i64) (cmpT Try.prog) false a23 a24).bind fun a25 =>
      condK a25
        (callK (EV C) false n_wal_Wal_Replace [.ptr W 1 0 0, a22] H21 fun a26 H26 E26 =>
        (binA .neq (Go.TypeDesc.interface #[("Error", 123)]) (cmpT Try.prog) true a26 .nili).bind fun a27 =>
        condK a27
          (endB true true n (.tup [.nilp, .nils, a26]) H26 (E26 ++ (E21 ++ [])))
          (endB true true n (.tup [.ptr W 1 0 0, a22, .nili]) H26 (E26 ++ (E21 ++ []))))
        (endB true true n (.tup [.ptr W 1 0 0, a22, .nili]) H21 (E21 ++ []))) =
    some (openV W (openX d), pt H L D (openX d).2.2, []) := by
  unfold openX
  have hl := log_len ho
  obtain ⟨s1, s2, s3, s4⟩ := scan_len (logF d) (logF d).length 0 (Nat.zero_le _)
  rw [callK_ok (by simp) (wal_Scan_ok (logF d) hl)]
  rw [show scanF (logF d) (logF d).length 0 = scanD d from rfl] at s1 s2 s3 s4 ⊢
  simp -implicitDefEqProofs only [extA_0, extA_1, Option.bind_some, lenV_bys, lss_int, condK_dec]
  by_cases h : (scanD d).2 < (logF d).length
  · rw [if_pos (by omega), if_pos h]
    rw [(Replace_m ho (scanD d).1 (by omega) (fun l hl' => by have := s3 l hl'; omega) (by omega)).call (by simp) ha]
    simp -implicitDefEqProofs only [er_neq, Option.bind_some, condK_dec]
    by_cases h0 : (replaceF d (scanD d).1).1 = 0
    · rw [if_neg (fun q => q h0), if_pos h0]; exact raw_end
    · rw [if_pos h0, if_neg h0]; unfold openV; rw [if_neg h0]; exact raw_end
  · rw [if_neg (by omega), if_neg h, pt_self ha.a]
    exact raw_end
theorem Open_ok {d : Dk} (ho : d.ok) (hon : d.off = false) {H : List AObj} {L D : Nat} (ha : At H L D d) :
    EV C n_wal_Open [.ptr D 1 0 0] H = some (openV H.length (openF d), pt H L D (openF d).2.2 ++ [wrow D], []) := by
  refine wal_Open_of ?_
  have e0 : binA .eql (Go.TypeDesc.pointer 57) (cmpT Try.prog) true (.ptr D 1 0 0) .nilp = some (.bool false) := rfl
  dsimp only
  rw [e0, Option.bind_some, condK_f, (On_m d).callS rfl ha, hon]
  simp -implicitDefEqProofs only [unA, Option.bind_some, Bool.not_false, Bool.not_true, condK_f]
  refine (congrArg (fun x => Option.bind x _) (show fillB _ _ = some [.ptr D 1 0 0] from rfl)).trans ?_
  rw [Option.bind_some, new_agg (by simp) rfl]
  have hw : Wt (H ++ [wrow D]) L D H.length d := ⟨ha.app _, by simp, ha.dl⟩
  rw [show AObj.row [AV.ptr D 1 0 0].length [.agg [AV.ptr D 1 0 0]] = wrow D from rfl, (clean_m ho).call rfl hw]
  simp -implicitDefEqProofs only [er_neq, Option.bind_some, condK_dec]
  unfold openF
  have hc := clean_ok ho
  by_cases h0 : (cleanF d).1 = 0
  · have hc0 := clean_on hon h0
    rw [if_neg (fun q => q h0), if_pos h0]
    generalize hC : (cleanF d).2 = c at hc hc0 ⊢
    have hw1 := hw.pt c
    rw [show (AV.str { data := #[108, 111, 103] }) = sv nLog from rfl, (Read_m hc nLog).callS rfl hw1.a]
    simp -implicitDefEqProofs only [extA_0, extA_1, er_neq, Option.bind_some, splitK_dec]
    have key := open_rest hc (n := H.length) hw1
    rw [pt_pt _ _ ha.lt, pt_app ha (d := (openX c).2.2)] at key
    by_cases ht : thereF c nLog = 0
    · rw [if_neg (fun q => q ht)]
      exact key
    · rw [if_pos ht]
      have h9 : thereF c nLog = 9 := by unfold thereF at ht ⊢; rw [hc0] at ht ⊢; simp at ht ⊢; exact ht
      rw [h9, er_ne 9 (by decide)]
      rw [callK_ok rfl (Is_9 [])]
      simp -implicitDefEqProofs only [unA, Option.bind_some, Bool.not_true, condK_f]
      exact key
  · rw [if_pos h0, if_neg h0]
    rw [pt_app ha]
    unfold openV
    rw [if_neg h0]
    exact raw_end
end Go.Pm
namespace Go.Pm
open Go.Proofs
set_option linter.unusedVariables false
set_option linter.unusedSimpArgs false
theorem law16_up_ok : EV C n_law16_up [] [] = some (.bool true, [], []) := by
  refine law16_up_of ?_
  simp only [List.length_nil]
  rw [callK_nil (bs := [bys []]) rfl rfl rfl (wal_Frame_ok [] (by decide))]
  have e1 : ∀ (K : AV → List AObj → List Nat → Option R3), rawK 1 9 (.int .u8 0) [(0, (.int .u8 49)), (1, (.int .u8 50)), (2, (.int .u8 51)), (3, (.int .u8 52)), (4, (.int .u8 53)), (5, (.int .u8 54)), (6, (.int .u8 55)), (7, (.int .u8 56)), (8, (.int .u8 57))] [] K = K (.slc 0 0 9 9) [.row 1 (([49, 50, 51, 52, 53, 54, 55, 56, 57] : List UInt8).map u8)] [] := fun K => rfl
  have e2 : cvR (.slc 0 0 9 9) [.row 1 (([49, 50, 51, 52, 53, 54, 55, 56, 57] : List UInt8).map u8)] = some (.slc 0 0 9 9) := rfl
  simp only [extA_0, extA_1, Option.bind_some, killsL, kills, List.append_nil, killAll, e1, e2]
  rw [callK_flat (bs := [bys [49, 50, 51, 52, 53, 54, 55, 56, 57]]) rfl (by simp) (wal_Sum_ok _ (by decide)) rfl]
  have e3 : crc [49, 50, 51, 52, 53, 54, 55, 56, 57] = 3808858755 := by kernel_rfl
  rw [e3]
  have e4 : decide (((3808858755 : Nat) : Int) = 3808858755) = true := by decide
  have e5 : decide (((8 + ([] : List UInt8).length : Nat) : Int) = 8) = true := by decide
  simp only [eql_int, Option.bind_some, nili_eq, lenV_bys, frame_len, e4, e5, splitK_t]
  exact endB_good rfl
end Go.Pm
namespace Go.Pm
open Go.Proofs
set_option linter.unusedVariables false
set_option linter.unusedSimpArgs false
abbrev KK := AV → List AObj → List Nat → Option R3
theorem At_new (H : List AObj) (sz : Int) : At (H ++ [fobj [], drow H.length (newD sz)]) H.length (H.length + 1) (newD sz) :=
  ⟨by rw [List.getElem?_append_right (Nat.le_refl _)]; simp [newD], by rw [List.getElem?_append_right (by omega)]; simp, by omega⟩
theorem New_K (sz : Int) (h0 : 0 ≤ sz) (h1 : sz ≤ 67108864) (H : List AObj) : ∃ H', At H' H.length (H.length + 1) (newD sz) ∧ ∀ K : KK, callK (EV C) true n_disk_New [.int .i64 sz] H K = K (.tup [.ptr (H.length + 1) 1 0 0, .nili]) H' [] :=
  ⟨_, At_new H sz, fun K => callK_raw (New_ok sz h0 h1 H)⟩
theorem open_new (sz : Int) : openF (newD sz) = (0, [], newD sz) := by
  unfold openF
  rw [show cleanF (newD sz) = (0, newD sz) from rfl]
  rfl
theorem Open_K {d : Dk} (ho : d.ok) (hon : d.off = false) {H : List AObj} {L D : Nat} (ha : At H L D d) : ∃ H' W, Wt H' L D W (openF d).2.2 ∧ ∀ K : KK, callK (EV C) true n_wal_Open [.ptr D 1 0 0] H K = K (openV W (openF d)) H' [] := by
  refine ⟨pt H L D (openF d).2.2 ++ [wrow D], H.length, ⟨(ha.pt _).app _, ?_, ha.dl⟩, fun K => callK_raw (Open_ok ho hon ha)⟩
  rw [List.getElem?_append_right (by rw [pt_len]; omega), pt_len]; simp
theorem WM.callE {f : FuncId} {args : List AV} {d d' : Dk} {v : AV} (h : WM f args d v d') (hg : goodL args = true) {H : List AObj} {L D W : Nat} (ha : Wt H L D W d) :
    ∃ H', Wt H' L D W d' ∧ ∀ K : KK, callK (EV C) false f (.ptr W 1 0 0 :: args) H K = K v H' [] := ⟨_, ha.pt d', fun K => h.call hg ha⟩
theorem DM.callE {f : FuncId} {args : List AV} {d d' : Dk} {v : AV} (h : DM f args d v d') (hg : goodL args = true) {H : List AObj} {L D W : Nat} (ha : Wt H L D W d) :
    ∃ H', Wt H' L D W d' ∧ ∀ K : KK, callK (EV C) false f (.ptr D 1 0 0 :: args) H K = K v H' [] := ⟨_, ha.pt d', fun K => h.call hg ha.a⟩
theorem er_eqc (k m : Int) (ms : Array (String × TypeId)) (b : Bool) : binA .eql (.interface ms) (cmpT Try.prog) b (erA k) (.ifc t_api_Code (.int .i64 m)) = some (.bool (decide (k ≠ 0 ∧ k = m))) := by
  unfold erA
  by_cases h : k = 0
  · rw [if_pos h]; simp [h]; rfl
  · rw [if_neg h]
    have : cmpT Try.prog t_api_Code = true := by kernel_rfl
    simp [binA, eqA, h, this]
theorem ptr_nil (t : TypeId) (b : Bool) (D : Nat) : binA .eql (Go.TypeDesc.pointer t) (cmpT Try.prog) b (.ptr D 1 0 0) .nilp = some (.bool false) := rfl
theorem nil_neq (ms : Array (String × TypeId)) : binA .neq (.interface ms) (cmpT Try.prog) true .nili .nili = some (.bool false) := rfl
theorem nil_eql (ms : Array (String × TypeId)) : binA .eql (.interface ms) (cmpT Try.prog) true .nili .nili = some (.bool true) := rfl
theorem appendF_go {d : Dk} {nm b : List UInt8} (hoff : d.off = false) (hn : namedF nm = true) (hr : (b.length : Int) ≤ roomOf d) (h8 : (getL nm d.fs).isNone = true → d.fs.length < 8) : appendF d nm b = stepE (putF d nm ⟨(fileOf nm d).b ++ b, (fileOf nm d).sy⟩) := by
  unfold appendF
  rw [if_neg (by rw [hoff]; simp), if_pos hn, if_neg (by omega), if_neg (fun q => by have := h8 q.1; omega)]
end Go.Pm
namespace Go.Pm
set_option linter.unusedVariables false
set_option linter.unusedSimpArgs false
def Free (n : Int) (d : Dk) : Prop := d.off = false ∧ (d.has = false ∨ (n ≤ d.bud ∧ d.bud < 2^62))
theorem Free.mono {n m : Int} {d : Dk} (h : Free n d) (hm : m ≤ n) : Free m d := ⟨h.1, h.2.imp id fun q => ⟨by omega, q.2⟩⟩
theorem step_free {d : Dk} {n : Int} (h : Free (n + 1) d) (h0 : 0 ≤ n) : (stepF d).1 = true ∧ Free n (stepF d).2 := by
  obtain ⟨h1, h2⟩ := h
  unfold stepF Free
  cases hh : d.has with
  | false => simp [hh, h1]
  | true =>
    rcases h2 with h2 | ⟨h2, h3⟩
    · rw [hh] at h2; cases h2
    · have : d.bud ≠ 0 := by omega
      have e : IntKind.i64.wrap (d.bud - 1) = d.bud - 1 := wrap64 (by omega) (by omega)
      simp only [this, if_false, if_true, e, h1, true_and]
      exact .inr ⟨by omega, by omega⟩
section
variable {d : Dk} {nm b : List UInt8} {f : Fil} {n : Int}
def appFs (d : Dk) (nm b : List UInt8) : List (List UInt8 × Fil) := putL nm ⟨(fileOf nm d).b ++ b, (fileOf nm d).sy⟩ d.fs
theorem append_free (h : Free (n + 1) d) (h0 : 0 ≤ n) (hn : namedF nm = true) (hr : (b.length : Int) ≤ roomOf d) (h8 : (getL nm d.fs).isNone = true → d.fs.length < 8) :
    (appendF d nm b).2.fs = appFs d nm b ∧ (appendF d nm b).2.sz = d.sz ∧ (appendF d nm b).1 = 0 ∧ Free n (appendF d nm b).2 := by
  rw [appendF_go h.1 hn hr h8]
  obtain ⟨h1, h2⟩ := step_free (d := putF d nm ⟨(fileOf nm d).b ++ b, (fileOf nm d).sy⟩) h h0
  exact ⟨step_fs _, step_sz _, by simp [stepE, h1], h2⟩
theorem there0 (hoff : d.off = false) (hg : getL nm d.fs = some f) : thereF d nm = 0 ∧ fileOf nm d = f := by
  unfold thereF fileOf; rw [hg, hoff]; simp
theorem sync_free (h : Free (n + 1) d) (h0 : 0 ≤ n) (hg : getL nm d.fs = some f) :
    (syncF d nm).2.sz = d.sz ∧ (syncF d nm).1 = 0 ∧ Free n (syncF d nm).2 ∧ (syncF d nm).2.fs = putL nm ⟨f.b, f.b.length⟩ d.fs := by
  obtain ⟨h1, h2⟩ := there0 h.1 hg
  obtain ⟨h3, h4⟩ := step_free h h0
  unfold syncF
  rw [if_pos h1, h2, if_pos h3]
  exact ⟨step_sz d, rfl, h4, by show putL _ _ (stepF d).2.fs = _; rw [step_fs]⟩
theorem rename_free {c : List UInt8} (h : Free (n + 1) d) (h0 : 0 ≤ n) (hn : namedF c = true) (hg : getL nm d.fs = some f) :
    (renameF d nm c).2.sz = d.sz ∧ (renameF d nm c).1 = 0 ∧ Free n (renameF d nm c).2 ∧ (renameF d nm c).2.fs = putL c f (delL nm d.fs) := by
  obtain ⟨h1, h2⟩ := there0 h.1 hg
  obtain ⟨h3, h4⟩ := step_free h h0
  unfold renameF
  rw [if_neg (by rw [hn]; simp), if_pos h1, h2, if_pos h3]
  exact ⟨step_sz d, rfl, h4, rfl⟩
end
theorem new_free (sz n : Int) : Free n (newD sz) := ⟨rfl, .inl rfl⟩
theorem new_ne : nNew ≠ nLog := by decide
theorem named_log : namedF nLog = true := by decide
theorem named_new : namedF nNew = true := by decide
theorem put_log1 (f g : Fil) : putL nLog f [(nLog, g)] = [(nLog, f)] := by unfold putL; rw [if_pos rfl]
theorem put_new1 (f g : Fil) : putL nNew f [(nLog, g)] = [(nLog, g), (nNew, f)] := by unfold putL; rw [if_neg new_ne]; rfl
theorem put_new2 (f g h : Fil) : putL nNew f [(nLog, g), (nNew, h)] = [(nLog, g), (nNew, f)] := by unfold putL; rw [if_neg new_ne]; unfold putL; rw [if_pos rfl]
theorem del_new2 (g h : Fil) : delL nNew [(nLog, g), (nNew, h)] = [(nLog, g)] := by unfold delL; rw [if_neg new_ne]; unfold delL; rw [if_pos rfl]
theorem get_log1 (g : Fil) (fs : List (List UInt8 × Fil)) : getL nLog ((nLog, g) :: fs) = some g := by unfold getL; rw [if_pos rfl]
theorem get_new1 (g : Fil) : getL nNew [(nLog, g)] = none := by unfold getL; rw [if_neg new_ne]; rfl
theorem get_new2 (g h : Fil) : getL nNew [(nLog, g), (nNew, h)] = some h := by unfold getL; rw [if_neg new_ne]; unfold getL; rw [if_pos rfl]
theorem tot1 (g : Fil) (nm : List UInt8) : totF [(nm, g)] = g.b.length := by simp [totF]
/-- the first Write -/
theorem write_first {d : Dk} {ls : List (List UInt8)} {n : Int} (h : Free (n + 2) d) (h0 : 0 ≤ n) (hfs : d.fs = []) (hl : longs ls = false) (hr : ((framesF ls).length : Int) ≤ d.sz) :
    (writeF d ls).1 = 0 ∧ Free n (writeF d ls).2 ∧ (writeF d ls).2.sz = d.sz ∧ (writeF d ls).2.fs = [(nLog, ⟨framesF ls, (framesF ls).length⟩)] := by
  obtain ⟨a1, a2, a3, a4⟩ := append_free (n := n + 1) (nm := nLog) (b := framesF ls) (h.mono (by omega)) (by omega) named_log (by unfold roomOf; rw [hfs]; simpa [totF] using hr) (fun _ => by rw [hfs]; decide)
  have e : fileOf nLog d = ⟨[], 0⟩ := by unfold fileOf; rw [hfs]; rfl
  have a5 : (appendF d nLog (framesF ls)).2.fs = [(nLog, ⟨framesF ls, 0⟩)] := by rw [a1]; unfold appFs; rw [e, hfs]; rfl
  obtain ⟨s1, s2, s3, s4⟩ := sync_free (n := n) (nm := nLog) a4 h0 (by rw [a5, get_log1])
  unfold writeF
  rw [if_neg (by rw [hl]; simp), if_pos a3]
  exact ⟨s2, s3, s1.trans a2, by rw [s4, a5, put_log1]⟩
end Go.Pm
namespace Go.Pm
set_option linter.unusedVariables false
set_option linter.unusedSimpArgs false
section
variable {d : Dk} {ls : List (List UInt8)} {f : Fil} {n : Int}
theorem room1 (hfs : d.fs = [(nLog, f)]) : roomOf d = d.sz - f.b.length := by unfold roomOf; rw [hfs, tot1]
theorem file_new (hfs : d.fs = [(nLog, f)]) : fileOf nNew d = ⟨[], 0⟩ := by unfold fileOf; rw [hfs, get_new1]; rfl
theorem clean1 (hfs : d.fs = [(nLog, f)]) : cleanF d = (0, d) := by unfold cleanF; rw [hfs, get_new1]; rfl
theorem replace_free (h : Free (n + 3) d) (h0 : 0 ≤ n) (hfs : d.fs = [(nLog, f)]) (hl : longs ls = false) (hr : ((framesF ls).length : Int) ≤ d.sz - f.b.length) :
    (replaceF d ls).2.sz = d.sz ∧ (replaceF d ls).1 = 0 ∧ Free n (replaceF d ls).2 ∧ (replaceF d ls).2.fs = [(nLog, ⟨framesF ls, (framesF ls).length⟩)] := by
  obtain ⟨a1, a2, a3, a4⟩ := append_free (n := n + 2) (nm := nNew) (b := framesF ls) (h.mono (by omega)) (by omega) named_new (by rw [room1 hfs]; exact hr) (fun _ => by rw [hfs]; simp)
  have a5 : (appendF d nNew (framesF ls)).2.fs = [(nLog, f), (nNew, ⟨framesF ls, 0⟩)] := by rw [a1]; unfold appFs; rw [file_new hfs, hfs, put_new1]; rfl
  obtain ⟨s1, s2, s3, s4⟩ := sync_free (n := n + 1) (nm := nNew) (a4.mono (by omega)) (by omega) (by rw [a5, get_new2])
  rw [a5, put_new2] at s4
  obtain ⟨r1, r2, r3, r4⟩ := rename_free (nm := nNew) s3 h0 named_log (by rw [s4, get_new2])
  unfold replaceF
  rw [if_neg (by rw [hl]; simp), clean1 hfs, if_pos rfl]
  dsimp only
  rw [if_pos a3, if_pos s2]
  exact ⟨r1.trans (s1.trans a2), r2, r3, by rw [r4, s4, del_new2, put_log1]⟩
end
end Go.Pm
namespace Go.Pm
open Go.Proofs
set_option linter.unusedVariables false
set_option linter.unusedSimpArgs false
theorem WalLong_key (n : Int) (h0 : 0 ≤ n) (h1 : n ≤ 4194304) : (
  mkK 1 1 (.int .u8 0) (.int .i64 n) (.int .i64 n) [] fun a84 H84 E84 =>
      frzK a84 H84 fun a85 H85 =>
      callK (EV C) true n_disk_New [(.int .i64 16777216)] H85 fun a86 H86 E86 =>
      (extA a86 0).bind fun a87 =>
      (extA a86 1).bind fun a88 =>
      (binA .eql (Go.TypeDesc.pointer 57) (cmpT Try.prog) true a87 .nilp).bind fun a89 =>
      splitK a89
        (endB false false 0 (.bool false) H86 (E86 ++ (E84 ++ ([] ++ []))))
        ((binA .neq (Go.TypeDesc.interface #[("Error", 123)]) (cmpT Try.prog) true a88 .nili).bind fun a90 =>
        condK a90
          (endB false false 0 (.bool false) H86 (E86 ++ (E84 ++ ([] ++ []))))
          (callK (EV C) true n_wal_Open [a87] H86 fun a91 H91 E91 =>
          (extA a91 0).bind fun a92 =>
          (extA a91 1).bind fun a93 =>
          (extA a91 2).bind fun a94 =>
          (binA .eql (Go.TypeDesc.pointer 69) (cmpT Try.prog) true a92 .nilp).bind fun a95 =>
          splitK a95
            (endB false false 0 (.bool false) H91 (E91 ++ (E86 ++ (E84 ++ ([] ++ [])))))
            ((binA .neq (Go.TypeDesc.interface #[("Error", 123)]) (cmpT Try.prog) true a94 .nili).bind fun a96 =>
            splitK a96
              (endB false false 0 (.bool false) H91 (E91 ++ (E86 ++ (E84 ++ ([] ++ [])))))
              ((lenV a93 H91).bind fun a97 =>
              (binA .neq (Go.TypeDesc.int Go.IntKind.i64) (cmpT Try.prog) true a97 (.int .i64 0)).bind fun a98 =>
              condK a98
                (endB false false 0 (.bool false) H91 (E91 ++ (E86 ++ (E84 ++ ([] ++ [])))))
                (callK (EV C) false n_wal_Frame [a85] H91 fun a99 H99 E99 =>
                (extA a99 0).bind fun a100 =>
                (extA a99 1).bind fun a101 =>
                litK 1 1 .nils [(0, a85)] H99 fun a102 H102 E102 =>
                callK (EV C) false n_wal_Wal_Write [a92, a102] H102 fun a103 H103 E103 =>
                litK 1 1 .nils [(0, a85)] H103 fun a104 H104 E104 =>
                callK (EV C) false n_wal_Wal_Replace [a92, a104] H104 fun a105 H105 E105 =>
                (binA .gtr (Go.TypeDesc.int Go.IntKind.i64) (cmpT Try.prog) true (.int .i64 n) (.int .i64 2097152)).bind fun a106 =>
                condK a106
                  (splitK (.bool true)
                    ((binA .eql (Go.TypeDesc.interface #[("Error", 123)]) (cmpT Try.prog) false a101 (.ifc t_api_Code (.int .i64 2))).bind fun a107 =>
                    splitK a107
                      ((binA .eql (Go.TypeDesc.interface #[("Error", 123)]) (cmpT Try.prog) false a103 (.ifc t_api_Code (.int .i64 2))).bind fun a108 =>
                      splitK a108
                        ((binA .eql (Go.TypeDesc.interface #[("Error", 123)]) (cmpT Try.prog) false a105 (.ifc t_api_Code (.int .i64 2))).bind fun a109 =>
                        splitK a109
                          ((lenV a100 H105).bind fun a110 =>
                          (binA .eql (Go.TypeDesc.int Go.IntKind.i64) (cmpT Try.prog) true a110 (.int .i64 0)).bind fun a111 =>
                          splitK a111
                            (callK (EV C) false n_disk_Disk_Room [a87] H105 fun a112 H112 E112 =>
                            (binA .eql (Go.TypeDesc.int Go.IntKind.i64) (cmpT Try.prog) true a112 (.int .i64 16777216)).bind fun a113 =>
                            endB false false 0 a113 H112 (E112 ++ (E105 ++ (E104 ++ (E103 ++ (E102 ++ (E99 ++ (E91 ++ (E86 ++ (E84 ++ ([] ++ [])))))))))))
                            (endB false false 0 (.bool false) H105 (E105 ++ (E104 ++ (E103 ++ (E102 ++ (E99 ++ (E91 ++ (E86 ++ (E84 ++ ([] ++ [])))))))))))
                          (endB false false 0 (.bool false) H105 (E105 ++ (E104 ++ (E103 ++ (E102 ++ (E99 ++ (E91 ++ (E86 ++ (E84 ++ ([] ++ [])))))))))))
                        (endB false false 0 (.bool false) H105 (E105 ++ (E104 ++ (E103 ++ (E102 ++ (E99 ++ (E91 ++ (E86 ++ (E84 ++ ([] ++ [])))))))))))
                      (endB false false 0 (.bool false) H105 (E105 ++ (E104 ++ (E103 ++ (E102 ++ (E99 ++ (E91 ++ (E86 ++ (E84 ++ ([] ++ [])))))))))))
                    (endB false false 0 (.bool false) H105 (E105 ++ (E104 ++ (E103 ++ (E102 ++ (E99 ++ (E91 ++ (E86 ++ (E84 ++ ([] ++ [])))))))))))
                  (splitK (.bool true)
                    ((binA .eql (Go.TypeDesc.interface #[("Error", 123)]) (cmpT Try.prog) true a101 .nili).bind fun a114 =>
                    splitK a114
                      ((binA .eql (Go.TypeDesc.interface #[("Error", 123)]) (cmpT Try.prog) true a103 .nili).bind fun a115 =>
                      splitK a115
                        ((binA .eql (Go.TypeDesc.interface #[("Error", 123)]) (cmpT Try.prog) true a105 .nili).bind fun a116 =>
                        splitK a116
                          ((lenV a100 H105).bind fun a117 =>
                          (binA .add (Go.TypeDesc.int Go.IntKind.i64) (cmpT Try.prog) true (.int .i64 n) (.int .i64 8)).bind fun a118 =>
                          (binA .eql (Go.TypeDesc.int Go.IntKind.i64) (cmpT Try.prog) false a117 a118).bind fun a119 =>
                          splitK a119
                            (callK (EV C) false n_disk_Disk_Room [a87] H105 fun a120 H120 E120 =>
                            (binA .sub (Go.TypeDesc.int Go.IntKind.i64) (cmpT Try.prog) true (.int .i64 16777216) (.int .i64 n)).bind fun a121 =>
                            (binA .sub (Go.TypeDesc.int Go.IntKind.i64) (cmpT Try.prog) true a121 (.int .i64 8)).bind fun a122 =>
                            (binA .eql (Go.TypeDesc.int Go.IntKind.i64) (cmpT Try.prog) false a120 a122).bind fun a123 =>
                            endB false false 0 a123 H120 (E120 ++ (E105 ++ (E104 ++ (E103 ++ (E102 ++ (E99 ++ (E91 ++ (E86 ++ (E84 ++ ([] ++ [])))))))))))
                            (endB false false 0 (.bool false) H105 (E105 ++ (E104 ++ (E103 ++ (E102 ++ (E99 ++ (E91 ++ (E86 ++ (E84 ++ ([] ++ [])))))))))))
                          (endB false false 0 (.bool false) H105 (E105 ++ (E104 ++ (E103 ++ (E102 ++ (E99 ++ (E91 ++ (E86 ++ (E84 ++ ([] ++ [])))))))))))
                        (endB false false 0 (.bool false) H105 (E105 ++ (E104 ++ (E103 ++ (E102 ++ (E99 ++ (E91 ++ (E86 ++ (E84 ++ ([] ++ [])))))))))))
                      (endB false false 0 (.bool false) H105 (E105 ++ (E104 ++ (E103 ++ (E102 ++ (E99 ++ (E91 ++ (E86 ++ (E84 ++ ([] ++ [])))))))))))
                    (endB false false 0 (.bool false) H105 (E105 ++ (E104 ++ (E103 ++ (E102 ++ (E99 ++ (E91 ++ (E86 ++ (E84 ++ ([] ++ []))))))))))))))))) = some (.bool true, [], []) := by
  obtain ⟨l, hl⟩ : ∃ l : List UInt8, l = List.replicate n.toNat 0 := ⟨_, rfl⟩
  have hn : l.length = n.toNat := by rw [hl, List.length_replicate]
  have hni : (l.length : Int) = n := by omega
  have e1 : ∀ K : KK, mkK 1 1 (.int .u8 0) (.int .i64 n) (.int .i64 n) [] K = K (.slc 0 0 l.length l.length) [.row 1 (l.map u8)] [] := fun K => by
    unfold mkK makeA
    dsimp only
    rw [if_pos ⟨h0, by omega, by omega, by decide, by decide, rfl, rfl⟩, hn, hl, List.map_replicate]
    rfl
  have e2 : ∀ K : AV → List AObj → Option R3, frzK (.slc 0 0 l.length l.length) [.row 1 (l.map u8)] K = K (bys l) [.dead] := fun K => by
    unfold frzK
    rw [frz_row (z := 1) rfl (List.length_map _).symm (goodL_u8 _)]
    rfl
  rw [e1, e2]
  obtain ⟨H1, a1, k1⟩ := New_K 16777216 (by decide) (by decide) [.dead]
  rw [k1]
  obtain ⟨H2, W, a2, k2⟩ := Open_K (newD_ok (sz := 16777216) (by decide) (by decide)) rfl a1
  rw [open_new] at a2 k2
  simp only [extA_0, extA_1, Option.bind_some, ptr_nil, nil_neq, splitK_f, condK_f, k2, openV, if_true, extA_2, List.map_nil]
  rw [show ∀ H, lenV (.lst []) H = some (.int .i64 0) from fun _ => rfl, Option.bind_some, neq_int, Option.bind_some, show (!decide ((0 : Int) = 0)) = false from rfl, condK_f]
  have hli : ∀ (H : List AObj) (K : KK), litK 1 1 .nils [(0, bys l)] H K = K (.lst ([l].map bys)) H [] := fun H K => rfl
  have ok0 := newD_ok (sz := 16777216) (by decide) (by decide)
  have hfl : (framesF [l]).length = l.length + 8 := by simp [framesF, frame_len]; omega
  obtain ⟨H3, a3, k3⟩ := (Write_m ok0 [l] (by simp) (fun x hx => by simp at hx; subst hx; omega) (by omega)).callE (by simp) a2
  obtain ⟨H4, a4, k4⟩ := (Replace_m (writeF_ok ok0 [l]) [l] (by simp) (fun x hx => by simp at hx; subst hx; omega) (by omega)).callE (by simp) a3
  have ok1 := replaceF_ok (writeF_ok ok0 [l]) [l]
  obtain ⟨H5, a5, k5⟩ := (Room_m ok1).callE rfl a4
  by_cases hlong : 2097152 < l.length
  · rw [callK_ok (by simp) (Frame_long l hlong (by omega))]
    simp only [extA_0, extA_1, Option.bind_some, hli, k3, k4, gtr_int, condK_dec]
    have hL : longs [l] = true := by simp [longs, longL, hlong]
    rw [if_pos (by omega)]
    have w : writeF (newD 16777216) [l] = (2, newD 16777216) := by unfold writeF; rw [if_pos hL]
    have r : replaceF (newD 16777216) [l] = (2, newD 16777216) := by unfold replaceF; rw [if_pos hL]
    rw [w] at k5 ⊢
    dsimp only at k5 ⊢
    rw [r] at k5 ⊢
    dsimp only at k5 ⊢
    simp only [splitK_t, er_eqc, Option.bind_some, splitK_dec]
    simp only [ne_eq, show ¬((2 : Int) = 0) by decide, not_false_eq_true, and_self, if_true, lenV_bys, Option.bind_some, eql_int, splitK_dec, List.length_nil, Int.ofNat_zero, Int.natCast_zero, k5]
    exact endB_good rfl
  · rw [callK_ok (by simp) (wal_Frame_ok l (by omega))]
    simp only [extA_0, extA_1, Option.bind_some, hli, k3, k4, gtr_int, condK_dec]
    have hL : longs [l] = false := by simp [longs, longL]; omega
    rw [if_neg (by omega)]
    obtain ⟨w1, w2, w3, w4⟩ := write_first (d := newD 16777216) (n := 3) (new_free _ _) (by decide) rfl hL (by show _ ≤ (16777216 : Int); omega)
    have w5 : (newD 16777216).sz = 16777216 := rfl
    rw [w5] at w3
    obtain ⟨r1, r2, r3, r4⟩ := replace_free (n := 0) (ls := [l]) w2 (by omega) w4 hL (by rw [w3]; dsimp only; omega)
    have hroom : roomOf (replaceF (writeF (newD 16777216) [l]).2 [l]).2 = 16777216 - n - 8 := by
      rw [room1 r4, r1, w3]; dsimp only; omega
    rw [w1, r2]
    have hz : erA 0 = .nili := rfl
    rw [hroom] at k5
    have s1 : IntKind.i64.wrap (16777216 - n) = 16777216 - n := wrap64 (by omega) (by omega)
    have s2 : IntKind.i64.wrap (16777216 - n - 8) = 16777216 - n - 8 := wrap64 (by omega) (by omega)
    have s3 : IntKind.i64.wrap (n + 8) = n + 8 := wrap64 (by omega) (by omega)
    simp only [hz, splitK_t, nil_eql, Option.bind_some, lenV_bys, frame_len, add_int, s3, eql_int, splitK_dec, sub_int, s1, s2, k5]
    rw [if_pos (by omega)]
    refine (endB_good rfl).trans ?_
    simp
theorem WalLong_ok (n : Int) : EV C n_law16_WalLong [.int .i64 n] [] = some (.bool true, [], []) := by
  refine law16_WalLong_of ?_
  dsimp only
  rw [callK_ok rfl law16_up_ok]
  rw [lss_int, Option.bind_some, splitK_dec]
  split
  · exact WalLong_key 0 (by decide) (by decide)
  · rw [gtr_int (x := n) (y := 4194304), Option.bind_some, condK_dec]
    split
    · exact WalLong_key 0 (by decide) (by decide)
    · exact WalLong_key n (by omega) (by omega)
end Go.Pm
