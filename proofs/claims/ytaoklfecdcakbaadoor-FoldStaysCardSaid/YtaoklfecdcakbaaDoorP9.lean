/- A part of the proof: what the functions of the program answer, as plain lists and numbers. -/
import Derived.Test.YtaoklfecdcakbaaDoorProg
import Derived.Test.YtaoklfecdcakbaaDoorP8
namespace Go.Pm
open Go.Proofs
set_option linter.unusedVariables false
set_option maxRecDepth 100000
abbrev n_law13_FoldStays : FuncId := 4
abbrev n_law00_Code : FuncId := 13
abbrev n_law13_up : FuncId := 20
abbrev n_fold_New : FuncId := 21
abbrev n_ref05_Grown : FuncId := 22
abbrev n_fold_Fold_Apply : FuncId := 23
abbrev n_fold_Fold_Root : FuncId := 24
abbrev n_fold_Fold_Last : FuncId := 27
abbrev n_tree_Digest : FuncId := 28
abbrev n_Clone_byte : FuncId := 36
abbrev n_fold_Fold_First : FuncId := 51
abbrev n_avl_Is : FuncId := 52
abbrev n_ref05_Put : FuncId := 53
abbrev n_command_Apply : FuncId := 54
abbrev n_fold_Fold_at : FuncId := 55
abbrev n_tree_Check : FuncId := 56
abbrev n_tree_told : FuncId := 57
abbrev n_coder_NewReader : FuncId := 67
abbrev n_coder_Reader_Byte : FuncId := 69
abbrev n_coder_Reader_Bytes : FuncId := 70
abbrev n_coder_Reader_End : FuncId := 71
abbrev n_tree_List : FuncId := 72
abbrev n_bytes_Compare : FuncId := 73
abbrev n_tree_Full : FuncId := 87
abbrev n_avl_even : FuncId := 88
abbrev n_ref05_Node : FuncId := 89
abbrev n_ref05_level : FuncId := 90
abbrev n_command_Read : FuncId := 91
abbrev n_command_last : FuncId := 92
abbrev n_command_change : FuncId := 93
abbrev n_avl_Put : FuncId := 94
abbrev n_command_own : FuncId := 95
abbrev n_coder_Number : FuncId := 96
abbrev n_tree_deep : FuncId := 97
abbrev n_tree_formed : FuncId := 98
abbrev n_digest_Of : FuncId := 99
abbrev n_digest_None : FuncId := 100
abbrev n_digest_Value : FuncId := 101
abbrev n_digest_Pair : FuncId := 102
abbrev n_tree_of : FuncId := 103
abbrev n_digest_Node : FuncId := 104
abbrev n_coder_Bytes : FuncId := 106
abbrev n_coder_Reader_take : FuncId := 110
abbrev n_coder_Reader_Number : FuncId := 111
abbrev n_tree_List_1 : FuncId := 112
abbrev n_tree_full : FuncId := 118
abbrev n_ref05_tilt : FuncId := 119
abbrev n_ref05_left : FuncId := 120
abbrev n_ref05_right : FuncId := 121
abbrev n_command_Write : FuncId := 122
abbrev n_avl_Get : FuncId := 123
abbrev n_command_Key : FuncId := 124
abbrev n_avl_Delete : FuncId := 125
abbrev n_avl_asked : FuncId := 126
abbrev n_avl_put : FuncId := 127
abbrev n_ContainsFunc_api_Tree : FuncId := 128
abbrev n_tree_deep_1 : FuncId := 129
abbrev n_tree_formed_1 : FuncId := 130
abbrev n_digest_width : FuncId := 131
abbrev n_sha_Sum : FuncId := 132
abbrev n_Concat_byte : FuncId := 133
abbrev n_tree_full_1 : FuncId := 137
abbrev n_ref04_Depth : FuncId := 138
abbrev n_avl_take : FuncId := 139
abbrev n_avl_node : FuncId := 140
abbrev n_avl_leveled : FuncId := 141
abbrev n_IndexFunc_api_Tree : FuncId := 142
abbrev n_sha_Tail : FuncId := 143
abbrev n_sha_Step : FuncId := 144
abbrev n_Grow_byte : FuncId := 145
abbrev n_avl_depth : FuncId := 146
abbrev n_avl_left : FuncId := 147
abbrev n_avl_right : FuncId := 148
abbrev n_sha_Words : FuncId := 149
abbrev n_sha_Round : FuncId := 150
abbrev n_math_bits_RotateLeft32 : FuncId := 151
abbrev n_fold_Fold_Root_r : FuncId := 1000024
abbrev n_Clone_byte_r : FuncId := 1000036
abbrev n_coder_Number_r : FuncId := 1000096
abbrev t_api_Code : TypeId := 62
def hintC : FuncId → Hint
 | 4 => { acts := [(4, 2, 1), (7, 4, 9), (7, 10, 10), (8, 2, 1), (14, 1, 7), (21, 2, 1)], loops := [(11, clr 154 [0, 3, 5, 6, 8, 9, 10]), (17, clr 154 [0, 3, 5, 6, 9, 11, 12, 13, 14])], open_ := [17, 11], subs := [(7, 9, 10)] }
 | 5 => { acts := [(2, 2, 1), (15, 2, 1)], loops := [(7, clr 142 [1, 2, 7, 8, 10, 11]), (19, clr 142 [1, 2, 7, 8, 10, 14, 16]), (23, clr 142 [7, 8, 10, 14, 17])], open_ := [23, 19, 7] }
 | 13 => { loops := [(4, clr 15 [0, 3])], open_ := [4] }
 | 20 => { acts := [(1, 1, 1), (2, 1, 1)] }
 | 21 => { keep := true, raw := true, acts := [(5, 3, 1)] }
 | 22 => { loops := [(3, clr 45 [0, 2, 3, 4])], open_ := [3] }
 | 23 => { acts := [(3, 4, 14), (6, 6, 1)] }
 | 36 => { acts := [(3, 0, 1)] }
 | 52 => { loops := [(5, clr 37 [1, 3, 4])], open_ := [5] }
 | 54 => { acts := [(14, 6, 7), (14, 10, 3)], blks := [(1000011, clr 85 [2, 4, 7])] }
 | 67 => { keep := true, raw := true }
 | 91 => { acts := [(1, 1, 1)] }
 | 92 => { acts := [(4, 1, 1)] }
 | 95 => { acts := [(1, 0, 1)], loops := [(3, clr 18 [0, 3, 4])], open_ := [3] }
 | 96 => { acts := [(2, 2, 1), (6, 3, 1)], loops := [(4, clr 43 [0, 3]), (8, clr 43 [0, 3, 4, 26, 27])], open_ := [8, 4] }
 | 101 => { acts := [(1, 0, 1)] }
 | 106 => { acts := [(1, 3, 7)] }
 | 111 => { loops := [(7, clr 48 [0, 4, 5, 19, 20, 21])], open_ := [7] }
 | 112 => { keep := true, evs := [(2, 5), (4, 5)], swaps := [(3, 6, 7)] }
 | 123 => { loops := [(4, clr 40 [1, 2])], open_ := [4] }
 | 124 => { acts := [(1, 0, 1)] }
 | 127 => { acts := [(3, 10, 10), (3, 11, 10)], subs := [(3, 8, 10), (3, 9, 11)] }
 | 132 => { acts := [(5, 0, 1), (16, 0, 2)], loops := [(8, clr 76 [7, 37, 38]), (10, clr 76 [7, 9, 37, 38]), (18, clr 76 [10, 56, 57])], open_ := [18, 10, 8] }
 | 133 => { acts := [(9, 1, 1)], loops := [(3, clr 36 [0, 3, 9, 10, 11]), (11, clr 36 [6, 25, 26, 27])], open_ := [11, 3] }
 | 139 => { acts := [(3, 10, 10), (3, 11, 10)], loops := [(14, clr 87 [4, 5, 6, 8])], open_ := [14], subs := [(3, 8, 10), (3, 9, 11)] }
 | 141 => { acts := [(1, 10, 10), (1, 11, 10)], subs := [(1, 8, 10), (1, 9, 11)] }
 | 142 => { loops := [(2, clr 19 [0, 1, 7, 8])], open_ := [2] }
 | 143 => { acts := [(3, 0, 1)], loops := [(4, clr 37 [0, 4]), (7, clr 37 [0, 4, 5])], open_ := [7, 4] }
 | 144 => { loops := [(6, clr 49 [2, 4, 8, 22, 23, 24]), (11, clr 49 [2, 4, 8, 36])], open_ := [11, 6] }
 | 145 => { keep := true, raw := true, acts := [(5, 8, 5)] }
 | 149 => { loops := [(5, clr 87 [4, 17, 18, 19]), (10, clr 87 [4, 7])], open_ := [10, 5] }
 | 1000036 => { keep := true, raw := true, acts := [(3, 0, 1)] }
 | 1000096 => { keep := true, raw := true, acts := [(2, 2, 1), (6, 3, 1)], loops := [(4, clr 43 [0, 3]), (8, clr 43 [0, 3, 4, 26, 27])], open_ := [8, 4] }
 | 1000024 => { keep := true, raw := true, acts := [(8, 4, 7)] }
 | _ => {}
/-- without what slices.Clone is taken for -/
noncomputable def C0 : Cfg := { P := Tryd.prog, G := glC, I := fun _ => none, hint := hintC }
noncomputable def C : Cfg := { P := Tryd.prog, G := glC, I := addI n_bytes_Compare cmpF (clonesI C0 [n_Clone_byte]), hint := hintC }
end Go.Pm
