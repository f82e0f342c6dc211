/- A part of the proof: what the functions of the program answer, as plain lists and numbers. -/
import Derived.Test.YtaoklfecdcakbaaProg
import Derived.Test.YtaoklfecdcakbaaP8
namespace Go.Pm
open Go.Proofs
set_option linter.unusedVariables false
set_option maxRecDepth 100000
abbrev n_law13_FoldNew : FuncId := 9
abbrev n_command_Apply : FuncId := 19
abbrev n_ref05_Is : FuncId := 20
abbrev n_avl_Is : FuncId := 28
abbrev n_law13_up : FuncId := 30
abbrev n_ref04_Light : FuncId := 31
abbrev n_fold_New : FuncId := 32
abbrev n_fold_Fold_First : FuncId := 33
abbrev n_fold_Fold_Last : FuncId := 34
abbrev n_ref04_Check : FuncId := 52
abbrev n_ref04_Full : FuncId := 53
abbrev n_ref04_List : FuncId := 54
abbrev n_ref04_Depth : FuncId := 55
abbrev n_tree_Full : FuncId := 60
abbrev n_tree_List : FuncId := 61
abbrev n_bytes_Compare : FuncId := 62
abbrev n_avl_even : FuncId := 63
abbrev n_fold_Fold_Apply : FuncId := 65
abbrev n_Clone_byte : FuncId := 67
abbrev n_ref04_Deep : FuncId := 72
abbrev n_ref04_Formed : FuncId := 73
abbrev n_tree_Check : FuncId := 76
abbrev n_tree_full : FuncId := 77
abbrev n_tree_List_1 : FuncId := 78
abbrev n_tree_deep : FuncId := 86
abbrev n_tree_formed : FuncId := 87
abbrev n_ContainsFunc_api_Tree : FuncId := 88
abbrev n_tree_full_1 : FuncId := 89
abbrev n_tree_deep_1 : FuncId := 93
abbrev n_tree_formed_1 : FuncId := 94
abbrev n_IndexFunc_api_Tree : FuncId := 95
abbrev t_api_Code : TypeId := 32
def hintC : FuncId → Hint
 | 7 => { loops := [(10, clr 173 [2, 3, 5, 9, 11, 13, 14, 16])] }
 | 9 => { acts := [(4, 2, 1)] }
 | 10 => { acts := [(1, 0, 1), (1, 2, 1), (4, 1, 1)] }
 | 13 => { acts := [(1, 1, 1)] }
 | 14 => { acts := [(1, 0, 1)] }
 | 17 => { loops := [(4, clr 15 [0, 3])], open_ := [4] }
 | 19 => { acts := [(14, 6, 7), (14, 10, 3)], blks := [(1000011, clr 85 [2, 4, 7])] }
 | 20 => { loops := [(8, clr 63 [4, 5])], open_ := [8] }
 | 21 => { loops := [(4, clr 68 [2, 3, 5])], open_ := [4] }
 | 22 => { acts := [(19, 6, 7), (19, 10, 3)] }
 | 24 => { acts := [(1, 0, 1)] }
 | 25 => { acts := [(1, 0, 1)] }
 | 26 => { loops := [(3, clr 30 [1, 6, 7])], open_ := [3] }
 | 27 => { loops := [(3, clr 45 [0, 2, 3, 4])], open_ := [3] }
 | 28 => { loops := [(5, clr 37 [1, 3, 4])], open_ := [5] }
 | 30 => { acts := [(1, 1, 1), (2, 1, 1)] }
 | 31 => { loops := [(5, clr 60 [1, 2, 3, 7])], open_ := [5] }
 | 32 => { keep := true, raw := true, acts := [(5, 3, 1)] }
 | 35 => { acts := [(9, 1, 1)], loops := [(3, clr 36 [0, 3, 9, 10, 11]), (11, clr 36 [6, 25, 26, 27])], open_ := [11, 3] }
 | 36 => { acts := [(2, 2, 1), (6, 3, 1)], loops := [(4, clr 43 [0, 3]), (8, clr 43 [0, 3, 4, 26, 27])], open_ := [8, 4] }
 | 37 => { acts := [(1, 3, 7)] }
 | 38 => { keep := true, raw := true }
 | 39 => { loops := [(7, clr 48 [0, 4, 5, 19, 20, 21])], open_ := [7] }
 | 43 => { acts := [(2, 2, 1), (5, 3, 1), (5, 5, 3), (7, 4, 1)], loops := [(4, clr 26 [0, 3])] }
 | 44 => { acts := [(1, 3, 7)] }
 | 45 => { loops := [(10, clr 86 [0, 4, 5, 6])], open_ := [10] }
 | 47 => { acts := [(5, 0, 1)] }
 | 48 => { acts := [(4, 1, 1)] }
 | 51 => { acts := [(1, 0, 1)], loops := [(3, clr 18 [0, 3, 4])], open_ := [3] }
 | 53 => { loops := [(4, clr 23 [1, 3])], open_ := [4] }
 | 54 => { acts := [(3, 0, 1)] }
 | 58 => { loops := [(4, clr 21 [0, 3, 4])], open_ := [4] }
 | 59 => { loops := [(4, clr 40 [1, 2])], open_ := [4] }
 | 66 => { keep := true, raw := true, acts := [(5, 8, 5)] }
 | 67 => { acts := [(3, 0, 1)] }
 | 71 => { acts := [(3, 10, 10), (3, 11, 10)], subs := [(3, 8, 10), (3, 9, 11)] }
 | 72 => { loops := [(5, clr 43 [1, 2, 6])], open_ := [5] }
 | 73 => { loops := [(16, clr 94 [1, 6, 7, 8])], open_ := [16] }
 | 78 => { keep := true, evs := [(2, 5), (4, 5)], swaps := [(3, 6, 7)] }
 | 80 => { acts := [(3, 10, 10), (3, 11, 10)], loops := [(14, clr 87 [4, 5, 6, 8])], open_ := [14], subs := [(3, 8, 10), (3, 9, 11)] }
 | 82 => { acts := [(1, 10, 10), (1, 11, 10)], subs := [(1, 8, 10), (1, 9, 11)] }
 | 95 => { loops := [(2, clr 19 [0, 1, 7, 8])], open_ := [2] }
 | 1000067 => { keep := true, raw := true, acts := [(3, 0, 1)] }
 | 1000036 => { keep := true, raw := true, acts := [(2, 2, 1), (6, 3, 1)], loops := [(4, clr 43 [0, 3]), (8, clr 43 [0, 3, 4, 26, 27])], open_ := [8, 4] }
 | 1000043 => { keep := true, raw := true, acts := [(2, 2, 1), (5, 3, 1), (5, 5, 3), (7, 4, 1)], loops := [(4, clr 26 [0, 3])] }
 | _ => {}
/-- without what slices.Clone is taken for -/
noncomputable def C0 : Cfg := { P := Try.prog, G := fun _ => none, I := fun _ => none, hint := hintC }
noncomputable def C : Cfg := { P := Try.prog, G := fun _ => none, I := addI n_bytes_Compare cmpF (clonesI C0 [n_Clone_byte]), hint := hintC }
end Go.Pm
