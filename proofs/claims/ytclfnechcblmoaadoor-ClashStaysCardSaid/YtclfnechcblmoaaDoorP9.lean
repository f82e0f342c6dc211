/- A part of the proof: what the functions of the program answer, as plain lists and numbers. -/
import Derived.Test.YtclfnechcblmoaaDoorProg
import Derived.Test.YtclfnechcblmoaaDoorP8
namespace Go.Pm
open Go.Proofs
set_option linter.unusedVariables false
set_option maxRecDepth 100000
abbrev n_law09_ClashStays : FuncId := 9
abbrev n_law00_Code : FuncId := 22
abbrev n_tree_Digest : FuncId := 24
abbrev n_law09_up : FuncId := 26
abbrev n_law09_small : FuncId := 27
abbrev n_clash_Find : FuncId := 28
abbrev n_digest_Of : FuncId := 32
abbrev n_ref04_Same : FuncId := 34
abbrev n_ref04_Check : FuncId := 35
abbrev n_ref04_Light : FuncId := 40
abbrev n_bytes_Equal : FuncId := 48
abbrev n_bytes_Compare : FuncId := 49
abbrev n_Clone_byte : FuncId := 51
abbrev n_tree_Check : FuncId := 56
abbrev n_tree_told : FuncId := 57
abbrev n_clash_search : FuncId := 58
abbrev n_digest_width : FuncId := 65
abbrev n_sha_Sum : FuncId := 66
abbrev n_ref04_Deep : FuncId := 67
abbrev n_ref04_Formed : FuncId := 68
abbrev n_tree_deep : FuncId := 80
abbrev n_tree_formed : FuncId := 81
abbrev n_digest_None : FuncId := 82
abbrev n_digest_Value : FuncId := 83
abbrev n_digest_Pair : FuncId := 84
abbrev n_tree_of : FuncId := 85
abbrev n_digest_Node : FuncId := 86
abbrev n_clash_parts : FuncId := 87
abbrev n_sha_Tail : FuncId := 90
abbrev n_sha_Step : FuncId := 91
abbrev n_ContainsFunc_api_Tree : FuncId := 98
abbrev n_tree_deep_1 : FuncId := 99
abbrev n_tree_formed_1 : FuncId := 100
abbrev n_Concat_byte : FuncId := 101
abbrev n_coder_Bytes : FuncId := 102
abbrev n_sha_Words : FuncId := 106
abbrev n_sha_Round : FuncId := 107
abbrev n_IndexFunc_api_Tree : FuncId := 112
abbrev n_Grow_byte : FuncId := 113
abbrev n_coder_Number : FuncId := 114
abbrev n_math_bits_RotateLeft32 : FuncId := 117
abbrev n_ref04_Copy_r : FuncId := 1000033
abbrev n_ref04_List_r : FuncId := 1000036
abbrev n_Clone_byte_r : FuncId := 1000051
abbrev n_tree_Digest_l : FuncId := 2000024
abbrev n_clash_Find_l : FuncId := 2000028
abbrev n_tree_told_l : FuncId := 2000057
abbrev n_clash_search_l : FuncId := 2000058
abbrev n_clash_parts_l : FuncId := 2000087
abbrev t_api_Code : TypeId := 58
def hintC : FuncId → Hint
 | 5 => { acts := [(12, 0, 2)], loops := [(14, clr 115 [11, 15, 17, 19, 20, 21, 22])], open_ := [14] }
 | 9 => { acts := [(4, 1, 7), (5, 3, 13), (6, 2, 12), (10, 1, 12), (11, 1, 7)], loops := [(13, clr 128 [0, 4, 5, 7, 9, 10, 11, 12, 13, 14, 15, 16]), (16, clr 128 [0, 4, 5, 7, 9, 10, 11, 12, 13, 14, 15, 16, 17])], open_ := [16, 13] }
 | 12 => { acts := [(8, 0, 2)], loops := [(11, clr 104 [5, 7, 8, 11, 13, 14, 15, 16, 17])], open_ := [11] }
 | 13 => { acts := [(3, 1, 7), (4, 2, 13), (6, 2, 12), (7, 1, 7)], loops := [(9, clr 122 [3, 5, 6, 8, 9, 10, 11, 12, 13]), (12, clr 122 [3, 5, 6, 8, 9, 10, 11, 12, 13, 14]), (16, clr 122 [3, 5, 6, 8, 9, 10, 11, 12, 13, 15])], open_ := [16, 12, 9] }
 | 14 => { acts := [(8, 0, 9), (8, 2, 9), (9, 3, 7)], loops := [(12, clr 120 [3, 5, 6, 11, 12, 13, 14, 15, 16]), (15, clr 120 [3, 5, 6, 11, 12, 13, 14, 15, 16, 17])], open_ := [15, 12] }
 | 19 => { acts := [(16, 0, 2)], loops := [(10, clr 99 [6, 7, 12, 13]), (18, clr 99 [6, 14, 72, 73, 74])], open_ := [10] }
 | 20 => { acts := [(12, 0, 2), (23, 0, 2)], loops := [(14, clr 180 [8, 15, 16, 17]), (19, clr 180 [8, 15, 16, 18]), (27, clr 180 [8, 15, 19, 20, 21, 22]), (33, clr 180 [8, 15, 19, 20, 21, 22, 23, 24, 25])], open_ := [33, 19, 14] }
 | 21 => { acts := [(2, 0, 2)], loops := [(4, clr 61 [0, 1, 2, 3]), (8, clr 61 [0, 1, 2, 3, 4, 5]), (14, clr 61 [0, 1, 2, 6]), (18, clr 61 [0, 1, 2, 7])], open_ := [18, 14, 8, 4] }
 | 22 => { loops := [(4, clr 15 [0, 3])], open_ := [4] }
 | 23 => { loops := [(4, clr 45 [0, 1, 5])], open_ := [4] }
 | 33 => { acts := [(1, 2, 9), (1, 5, 9), (1, 6, 9), (1, 9, 9), (1, 10, 9), (1, 13, 9), (1, 14, 5), (1, 16, 10)], loops := [(3, clr 39 [1, 2, 3, 4])], open_ := [3], subs := [(1, 15, 16)] }
 | 34 => { loops := [(4, clr 68 [2, 3, 5])], open_ := [4] }
 | 36 => { acts := [(3, 0, 1)] }
 | 39 => { acts := [(1, 0, 1)] }
 | 40 => { loops := [(5, clr 60 [1, 2, 3, 7])], open_ := [5] }
 | 42 => { loops := [(8, clr 63 [4, 5])], open_ := [8] }
 | 44 => { loops := [(3, clr 45 [0, 2, 3, 4])], open_ := [3] }
 | 46 => { acts := [(1, 0, 2)], loops := [(4, clr 40 [3, 5, 6, 7])], open_ := [4] }
 | 47 => { acts := [(3, 0, 2)], loops := [(5, clr 36 [3, 6, 14, 15, 16])] }
 | 51 => { acts := [(3, 0, 1)] }
 | 52 => { acts := [(6, 0, 1)] }
 | 55 => { loops := [(3, clr 23 [0, 1, 5, 6])], open_ := [3] }
 | 58 => { loops := [(14, clr 104 [0, 4, 5, 80, 81])], open_ := [14] }
 | 60 => { acts := [(1, 0, 1)] }
 | 61 => { acts := [(1, 0, 1)] }
 | 62 => { acts := [(1, 0, 1)] }
 | 66 => { acts := [(5, 0, 1), (16, 0, 2)], loops := [(8, clr 76 [7, 37, 38]), (10, clr 76 [7, 9, 37, 38]), (18, clr 76 [10, 56, 57])], open_ := [18, 10, 8] }
 | 67 => { loops := [(5, clr 43 [1, 2, 6])], open_ := [5] }
 | 68 => { loops := [(16, clr 94 [1, 6, 7, 8])], open_ := [16] }
 | 69 => { acts := [(1, 1, 7)] }
 | 70 => { loops := [(5, clr 37 [1, 3, 4])], open_ := [5] }
 | 71 => { acts := [(4, 10, 10), (4, 11, 10)], subs := [(4, 8, 10), (4, 9, 11)] }
 | 72 => { loops := [(4, clr 23 [1, 3])], open_ := [4] }
 | 76 => { keep := true, evs := [(2, 5), (4, 5)], swaps := [(3, 6, 7)] }
 | 79 => { loops := [(10, clr 59 [8, 10, 11])], open_ := [10] }
 | 83 => { acts := [(1, 0, 1)] }
 | 88 => { acts := [(1, 0, 1)], loops := [(5, clr 53 [2, 5, 6, 7]), (10, clr 53 [6, 8, 9])], open_ := [10, 5] }
 | 89 => { acts := [(1, 3, 1)] }
 | 90 => { acts := [(3, 0, 1)], loops := [(4, clr 37 [0, 4]), (7, clr 37 [0, 4, 5])], open_ := [7, 4] }
 | 91 => { loops := [(6, clr 49 [2, 4, 8, 22, 23, 24]), (11, clr 49 [2, 4, 8, 36])], open_ := [11, 6] }
 | 97 => { loops := [(3, clr 80 [0, 1, 5, 6]), (6, clr 80 [0, 1, 5, 6, 7]), (10, clr 80 [5, 8])], open_ := [10, 6, 3] }
 | 101 => { acts := [(9, 1, 1)], loops := [(3, clr 36 [0, 3, 9, 10, 11]), (11, clr 36 [6, 25, 26, 27])], open_ := [11, 3] }
 | 102 => { acts := [(1, 3, 1)] }
 | 103 => { acts := [(1, 0, 1)], loops := [(2, clr 36 [0, 3]), (7, clr 36 [3, 4, 5, 6])], open_ := [7, 2] }
 | 104 => { loops := [(4, clr 43 [3, 4, 6, 7, 8, 9]), (8, clr 43 [4, 6, 8, 10])], open_ := [8, 4] }
 | 105 => { keep := true, raw := true, acts := [(2, 2, 1), (5, 3, 1), (7, 4, 1)], loops := [(4, clr 26 [0, 3])] }
 | 106 => { loops := [(5, clr 87 [4, 17, 18, 19]), (10, clr 87 [4, 7])], open_ := [10, 5] }
 | 112 => { loops := [(2, clr 19 [0, 1, 7, 8])], open_ := [2] }
 | 113 => { keep := true, raw := true, acts := [(5, 8, 5)] }
 | 114 => { keep := true, raw := true, acts := [(2, 2, 1), (6, 3, 1)], loops := [(4, clr 43 [0, 3]), (8, clr 43 [0, 3, 4, 26, 27])], open_ := [8, 4] }
 | 115 => { acts := [(1, 0, 2)], loops := [(3, clr 96 [0, 3, 4]), (7, clr 96 [0, 3, 4, 5, 6]), (12, clr 96 [3, 7])], open_ := [12, 7, 3] }
 | 1000051 => { keep := true, raw := true, acts := [(3, 0, 9)] }
 | 1000019 => { keep := true, raw := true, acts := [(16, 0, 2), (21, 6, 7), (21, 8, 1)], loops := [(10, clr 99 [6, 7, 12, 13]), (18, clr 99 [6, 14, 72, 73, 74])], open_ := [18, 10] }
 | 1000033 => { keep := true, raw := true, acts := [(1, 2, 9), (1, 6, 9), (1, 10, 9), (1, 13, 9), (1, 14, 5), (1, 16, 10), (5, 7, 7), (5, 8, 1), (6, 0, 16)], loops := [(3, clr 39 [1, 2, 3, 4])], open_ := [3], subs := [(1, 15, 16)] }
 | 1000036 => { acts := [(3, 0, 1), (3, 5, 7), (4, 2, 1), (5, 5, 7)] }
 | 2000057 => { acts := [(18, 5, 13), (21, 5, 13)] }
 | 2000024 => { acts := [(3, 1, 12), (6, 2, 13)] }
 | 2000087 => { acts := [(15, 5, 13), (18, 5, 13)] }
 | 2000058 => { acts := [(3, 2, 13), (11, 13, 12), (16, 11, 13)], loops := [(14, clr 104 [0, 4, 5, 80, 81])], open_ := [14] }
 | 2000028 => { acts := [(1, 2, 13), (9, 3, 13)] }
 | 2000071 => { acts := [(4, 10, 10), (4, 11, 10), (5, 4, 12), (7, 2, 13), (7, 5, 13), (14, 5, 12), (15, 2, 13), (15, 5, 13), (16, 2, 13), (16, 5, 13)], subs := [(4, 8, 10), (4, 9, 11)] }
 | 2000094 => { acts := [(3, 3, 13)] }
 | 2000041 => { acts := [(3, 1, 12), (5, 4, 13)] }
 | _ => {}
/-- without what slices.Clone is taken for -/
noncomputable def C0 : Cfg := { P := Tryd.prog, G := glC, I := fun _ => none, hint := hintC }
noncomputable def C : Cfg := { P := Tryd.prog, G := glC, I := addI n_bytes_Compare cmpF (clonesI C0 [n_Clone_byte, n_Clone_byte_r]), hint := hintC }
end Go.Pm
