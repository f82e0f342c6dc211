/- A part of the proof: what the functions of the program answer, as plain lists and numbers. -/
import Derived.Test.YtaoklfecdcakbaaProg
import Derived.Test.YtaoklfecdcakbaaP8
namespace Go.Pm
open Go.Proofs
set_option linter.unusedVariables false
set_option maxRecDepth 100000
abbrev n_law12_CommandTells : FuncId := 8
abbrev n_law12_up : FuncId := 10
abbrev n_command_Write : FuncId := 11
abbrev n_ref12_May : FuncId := 12
abbrev n_command_Read : FuncId := 13
abbrev n_ref12_Read : FuncId := 16
abbrev n_command_Apply : FuncId := 19
abbrev n_ref12_Apply : FuncId := 22
abbrev n_command_Look : FuncId := 23
abbrev n_command_Key : FuncId := 24
abbrev n_ref12_Key : FuncId := 25
abbrev n_ref05_Get : FuncId := 26
abbrev n_ref05_Grown : FuncId := 27
abbrev n_avl_Is : FuncId := 28
abbrev n_ref12_Session : FuncId := 29
abbrev n_Concat_byte : FuncId := 35
abbrev n_coder_Number : FuncId := 36
abbrev n_coder_Bytes : FuncId := 37
abbrev n_coder_NewReader : FuncId := 38
abbrev n_coder_Reader_Number : FuncId := 39
abbrev n_coder_Reader_Byte : FuncId := 40
abbrev n_coder_Reader_Bytes : FuncId := 41
abbrev n_coder_Reader_End : FuncId := 42
abbrev n_ref02_Reader_Number : FuncId := 45
abbrev n_ref02_Reader_Byte : FuncId := 46
abbrev n_ref02_Reader_Bytes : FuncId := 47
abbrev n_command_last : FuncId := 48
abbrev n_command_change : FuncId := 49
abbrev n_avl_Put : FuncId := 50
abbrev n_command_own : FuncId := 51
abbrev n_ref04_List : FuncId := 54
abbrev n_ref04_Depth : FuncId := 55
abbrev n_ref05_Put : FuncId := 56
abbrev n_ref05_Delete : FuncId := 57
abbrev n_ref12_Own : FuncId := 58
abbrev n_avl_Get : FuncId := 59
abbrev n_tree_Full : FuncId := 60
abbrev n_tree_List : FuncId := 61
abbrev n_bytes_Compare : FuncId := 62
abbrev n_avl_even : FuncId := 63
abbrev n_ref02_Reader_End : FuncId := 64
abbrev n_Grow_byte : FuncId := 66
abbrev n_Clone_byte : FuncId := 67
abbrev n_coder_Reader_take : FuncId := 68
abbrev n_avl_Delete : FuncId := 69
abbrev n_avl_asked : FuncId := 70
abbrev n_avl_put : FuncId := 71
abbrev n_ref05_Node : FuncId := 74
abbrev n_ref05_level : FuncId := 75
abbrev n_tree_Check : FuncId := 76
abbrev n_tree_full : FuncId := 77
abbrev n_tree_List_1 : FuncId := 78
abbrev n_avl_take : FuncId := 80
abbrev n_avl_node : FuncId := 81
abbrev n_avl_leveled : FuncId := 82
abbrev n_ref05_tilt : FuncId := 83
abbrev n_ref05_left : FuncId := 84
abbrev n_ref05_right : FuncId := 85
abbrev n_tree_deep : FuncId := 86
abbrev n_tree_formed : FuncId := 87
abbrev n_ContainsFunc_api_Tree : FuncId := 88
abbrev n_tree_full_1 : FuncId := 89
abbrev n_avl_depth : FuncId := 90
abbrev n_avl_left : FuncId := 91
abbrev n_avl_right : FuncId := 92
abbrev n_tree_deep_1 : FuncId := 93
abbrev n_tree_formed_1 : FuncId := 94
abbrev n_IndexFunc_api_Tree : FuncId := 95
abbrev n_coder_Number_r : FuncId := 1000036
abbrev n_ref02_Number_r : FuncId := 1000043
abbrev t_api_Code : TypeId := 32
def hintC : FuncId → Hint
 | 7 => { loops := [(10, clr 173 [2, 3, 5, 9, 11, 13, 14, 16])] }
 | 9 => { acts := [(4, 2, 1)] }
 | 10 => { acts := [(1, 0, 1), (1, 2, 1), (4, 1, 1)] }
 | 13 => { acts := [(1, 1, 1)] }
 | 14 => { acts := [(1, 0, 1)] }
 | 17 => { loops := [(4, clr 15 [0, 3])], open_ := [4] }
 | 19 => { acts := [(14, 6, 7), (14, 10, 3)], blks := [(1000011, clr 85 [2, 4, 7])] }
 | 20 => { loops := [(8, clr 63 [4, 5])], open_ := [8] }
 | 21 => { loops := [(4, clr 68 [2, 3, 5])], open_ := [4] }
 | 22 => { acts := [(19, 6, 7), (19, 10, 3)] }
 | 24 => { acts := [(1, 0, 1)] }
 | 25 => { acts := [(1, 0, 1)] }
 | 26 => { loops := [(3, clr 30 [1, 6, 7])], open_ := [3] }
 | 27 => { loops := [(3, clr 45 [0, 2, 3, 4])], open_ := [3] }
 | 28 => { loops := [(5, clr 37 [1, 3, 4])], open_ := [5] }
 | 30 => { acts := [(1, 1, 1), (2, 1, 1)] }
 | 31 => { loops := [(5, clr 60 [1, 2, 3, 7])], open_ := [5] }
 | 32 => { keep := true, raw := true, acts := [(5, 3, 1)] }
 | 35 => { acts := [(9, 1, 1)], loops := [(3, clr 36 [0, 3, 9, 10, 11]), (11, clr 36 [6, 25, 26, 27])], open_ := [11, 3] }
 | 36 => { acts := [(2, 2, 1), (6, 3, 1)], loops := [(4, clr 43 [0, 3]), (8, clr 43 [0, 3, 4, 26, 27])], open_ := [8, 4] }
 | 37 => { acts := [(1, 3, 7)] }
 | 38 => { keep := true, raw := true }
 | 39 => { loops := [(7, clr 48 [0, 4, 5, 19, 20, 21])], open_ := [7] }
 | 43 => { acts := [(2, 2, 1), (5, 3, 1), (5, 5, 3), (7, 4, 1)], loops := [(4, clr 26 [0, 3])] }
 | 44 => { acts := [(1, 3, 7)] }
 | 45 => { loops := [(10, clr 86 [0, 4, 5, 6])], open_ := [10] }
 | 47 => { acts := [(5, 0, 1)] }
 | 48 => { acts := [(4, 1, 1)] }
 | 51 => { acts := [(1, 0, 1)], loops := [(3, clr 18 [0, 3, 4])], open_ := [3] }
 | 53 => { loops := [(4, clr 23 [1, 3])], open_ := [4] }
 | 54 => { acts := [(3, 0, 1)] }
 | 58 => { loops := [(4, clr 21 [0, 3, 4])], open_ := [4] }
 | 59 => { loops := [(4, clr 40 [1, 2])], open_ := [4] }
 | 66 => { keep := true, raw := true, acts := [(5, 8, 5)] }
 | 67 => { acts := [(3, 0, 1)] }
 | 71 => { acts := [(3, 10, 10), (3, 11, 10)], subs := [(3, 8, 10), (3, 9, 11)] }
 | 72 => { loops := [(5, clr 43 [1, 2, 6])], open_ := [5] }
 | 73 => { loops := [(16, clr 94 [1, 6, 7, 8])], open_ := [16] }
 | 78 => { keep := true, evs := [(2, 5), (4, 5)], swaps := [(3, 6, 7)] }
 | 80 => { acts := [(3, 10, 10), (3, 11, 10)], loops := [(14, clr 87 [4, 5, 6, 8])], open_ := [14], subs := [(3, 8, 10), (3, 9, 11)] }
 | 82 => { acts := [(1, 10, 10), (1, 11, 10)], subs := [(1, 8, 10), (1, 9, 11)] }
 | 95 => { loops := [(2, clr 19 [0, 1, 7, 8])], open_ := [2] }
 | 1000067 => { keep := true, raw := true, acts := [(3, 0, 1)] }
 | 1000036 => { keep := true, raw := true, acts := [(2, 2, 1), (6, 3, 1)], loops := [(4, clr 43 [0, 3]), (8, clr 43 [0, 3, 4, 26, 27])], open_ := [8, 4] }
 | 1000043 => { keep := true, raw := true, acts := [(2, 2, 1), (5, 3, 1), (5, 5, 3), (7, 4, 1)], loops := [(4, clr 26 [0, 3])] }
 | _ => {}
/-- without what slices.Clone is taken for -/
noncomputable def C0 : Cfg := { P := Try.prog, G := fun _ => none, I := fun _ => none, hint := hintC }
noncomputable def C : Cfg := { P := Try.prog, G := fun _ => none, I := addI n_bytes_Compare cmpF (clonesI C0 [n_Clone_byte]), hint := hintC }
end Go.Pm
