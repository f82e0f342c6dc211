/- A part of the proof: what the functions of the program answer, as plain lists and numbers. -/
import Derived.Test.YtahipmiaknbkoaaProg
import Derived.Test.YtahipmiaknbkoaaP8
namespace Go.Pm
open Go.Proofs
set_option linter.unusedVariables false
set_option maxRecDepth 100000
abbrev n_law16_WalStays : FuncId := 7
abbrev n_disk_New : FuncId := 11
abbrev n_disk_Disk_Append : FuncId := 12
abbrev n_disk_Disk_Read : FuncId := 13
abbrev n_disk_Disk_Sync : FuncId := 14
abbrev n_disk_Disk_On : FuncId := 16
abbrev n_law16_up : FuncId := 18
abbrev n_wal_Open : FuncId := 19
abbrev n_wal_Frame : FuncId := 20
abbrev n_wal_Wal_Replace : FuncId := 22
abbrev n_disk_Disk_Room : FuncId := 23
abbrev n_ref16_Same : FuncId := 26
abbrev n_wal_Scan : FuncId := 27
abbrev n_disk_named : FuncId := 28
abbrev n_Concat_byte : FuncId := 29
abbrev n_disk_Disk_step : FuncId := 30
abbrev n_disk_Disk_there : FuncId := 31
abbrev n_Clone_byte : FuncId := 32
abbrev n_disk_Disk_Names : FuncId := 33
abbrev n_wal_Sum : FuncId := 34
abbrev n_wal_Wal_clean : FuncId := 35
abbrev n_errors_Is : FuncId := 36
abbrev n_wal_four : FuncId := 37
abbrev n_wal_check : FuncId := 38
abbrev n_wal_frames : FuncId := 39
abbrev n_disk_Disk_Rename : FuncId := 40
abbrev n_wal_number : FuncId := 41
abbrev n_Grow_byte : FuncId := 42
abbrev n_Sorted_string : FuncId := 43
abbrev n_maps_Keys_disk_file : FuncId := 44
abbrev n_Contains_string : FuncId := 45
abbrev n_disk_Disk_Remove : FuncId := 46
abbrev n_maps_Keys_map_string_disk_file_string_disk_file_1 : FuncId := 51
abbrev n_Index_string : FuncId := 52
abbrev n_wal_Frame_r : FuncId := 1000020
abbrev n_wal_Wal_Write_r : FuncId := 1000021
abbrev n_Concat_byte_r : FuncId := 1000029
abbrev n_Clone_byte_r : FuncId := 1000032
abbrev n_wal_frames_r : FuncId := 1000039
abbrev n_wal_Scan_l : FuncId := 2000027
abbrev t_api_Code : TypeId := 44
def hintC : FuncId → Hint
 | 3 => { acts := [(2, 0, 1), (5, 0, 1), (6, 2, 7), (12, 1, 7)], loops := [(9, clr 121 [0, 3, 4, 6, 7, 8, 9]), (15, clr 121 [0, 3, 4, 7, 8, 10, 11, 12, 13])], open_ := [15, 9] }
 | 4 => { acts := [(2, 0, 1), (8, 0, 1)], loops := [(11, clr 157 [1, 3, 9, 10, 12, 13, 14, 15, 16])], open_ := [11] }
 | 5 => { acts := [(4, 1, 3), (5, 0, 1), (8, 1, 1)] }
 | 6 => { acts := [(5, 1, 1), (6, 1, 1), (15, 1, 1), (19, 0, 1)] }
 | 7 => { acts := [(4, 0, 1), (5, 1, 1), (8, 0, 1), (9, 2, 1), (9, 3, 7), (15, 0, 1), (16, 1, 13), (22, 1, 1)], loops := [(12, clr 158 [0, 1, 5, 6, 11, 12, 13, 14]), (18, clr 158 [0, 1, 5, 6, 12, 13, 15, 16, 17, 18])], open_ := [18, 12] }
 | 8 => { acts := [(4, 0, 1), (5, 1, 1), (13, 1, 1), (16, 0, 1)] }
 | 9 => { acts := [(4, 0, 1), (5, 1, 1), (13, 1, 1)] }
 | 10 => { acts := [(1, 0, 1), (4, 1, 1), (6, 1, 1)] }
 | 11 => { keep := true, raw := true }
 | 17 => { loops := [(2, clr 69 [0, 1, 14, 15, 16])] }
 | 18 => { acts := [(2, 0, 1)] }
 | 19 => { keep := true, raw := true }
 | 25 => { loops := [(4, clr 19 [0, 3])], open_ := [4] }
 | 26 => { loops := [(4, clr 28 [0, 1, 5])], open_ := [4] }
 | 27 => { acts := [(1, 0, 2)], loops := [(3, clr 63 [0, 4, 5])], open_ := [3] }
 | 29 => { acts := [(9, 1, 1)], loops := [(3, clr 36 [0, 3, 9, 10, 11]), (11, clr 36 [6, 25, 26, 27])], open_ := [11, 3] }
 | 32 => { acts := [(3, 0, 9), (3, 2, 9)] }
 | 33 => { acts := [(1, 4, 1)] }
 | 34 => { loops := [(3, clr 31 [3, 7, 8, 9]), (7, clr 31 [3, 7, 8, 9, 17])], open_ := [7, 3] }
 | 39 => { acts := [(1, 0, 2)], loops := [(3, clr 28 [4, 9, 10, 11])], open_ := [3] }
 | 42 => { keep := true, raw := true, acts := [(5, 8, 5)] }
 | 44 => { keep := true, raw := true }
 | 52 => { loops := [(2, clr 19 [0, 1, 7, 8])], open_ := [2] }
 | 1000032 => { keep := true, raw := true, acts := [(3, 0, 9)] }
 | 1000013 => { keep := true, raw := true, acts := [(4, 7, 7)] }
 | 1000012 => { acts := [(8, 3, 1), (8, 4, 7)] }
 | 1000029 => { acts := [(9, 1, 1)], loops := [(3, clr 36 [0, 3, 9, 10, 11]), (11, clr 36 [6, 25, 26, 27])], open_ := [11, 3] }
 | 1000021 => { acts := [(1, 1, 7)] }
 | 1000039 => { acts := [(1, 0, 2), (5, 1, 7)], loops := [(3, clr 28 [4, 9, 10, 11])], open_ := [3] }
 | 1000020 => { acts := [(4, 6, 1), (4, 7, 7)] }
 | 2000027 => { acts := [(1, 0, 2), (5, 1, 12), (8, 2, 12), (8, 7, 12)], loops := [(3, clr 63 [0, 4, 5])], open_ := [3] }
 | _ => {}
/-- without what slices.Clone is taken for -/
noncomputable def C0 : Cfg := { P := Try.prog, G := fun _ => none, I := fun _ => none, hint := hintC }
noncomputable def C : Cfg := { P := Try.prog, G := fun _ => none, I := addI n_disk_Disk_Room roomF (addI n_Sorted_string (sortF 51) (addI n_errors_Is (isF 44) (clonesI C0 [n_Clone_byte, n_Clone_byte_r]))), hint := hintC }
end Go.Pm
