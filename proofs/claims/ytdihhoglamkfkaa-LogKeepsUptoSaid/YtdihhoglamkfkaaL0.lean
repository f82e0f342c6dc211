/- A part of the proof: what the functions of the program answer, as plain lists and numbers. -/
import Derived.Test.YtdihhoglamkfkaaPm32
import Derived.Test.YtdihhoglamkfkaaProg
namespace Go.Pm
open Go.Proofs
set_option linter.unusedVariables false
set_option maxRecDepth 100000
abbrev n_law18_LogMerges : FuncId := 4
abbrev n_law18_LogAgain : FuncId := 5
abbrev n_law18_LogCompacts : FuncId := 6
abbrev n_law18_LogTells : FuncId := 7
abbrev n_law18_LogKeeps : FuncId := 8
abbrev n_law18_up : FuncId := 17
abbrev n_ref18_Light : FuncId := 18
abbrev n_log_Merge : FuncId := 19
abbrev n_ref18_Check : FuncId := 20
abbrev n_ref18_Same : FuncId := 21
abbrev n_ref18_Merge : FuncId := 22
abbrev n_law00_Code : FuncId := 23
abbrev n_log_Check : FuncId := 24
abbrev n_log_Last : FuncId := 25
abbrev n_log_Term : FuncId := 26
abbrev n_log_Compact : FuncId := 27
abbrev n_ref18_Has : FuncId := 28
abbrev n_ref18_Compact : FuncId := 29
abbrev n_log_Members : FuncId := 30
abbrev n_log_Slice : FuncId := 31
abbrev n_ref18_Last : FuncId := 32
abbrev n_ref18_Term : FuncId := 33
abbrev n_ref17_Same : FuncId := 34
abbrev n_ref18_Members : FuncId := 35
abbrev n_ref18_SameEntries : FuncId := 36
abbrev n_ref18_Slice : FuncId := 37
abbrev n_log_asked : FuncId := 45
abbrev n_log_last : FuncId := 46
abbrev n_log_term : FuncId := 47
abbrev n_Concat_api_Entry : FuncId := 48
abbrev n_ref17_May : FuncId := 49
abbrev n_ref17_Of : FuncId := 50
abbrev n_log_count : FuncId := 51
abbrev n_conf_May : FuncId := 52
abbrev n_log_entry : FuncId := 53
abbrev n_Clone_api_Entry : FuncId := 54
abbrev n_conf_Of : FuncId := 55
abbrev n_Clone_int : FuncId := 56
abbrev n_log_has : FuncId := 58
abbrev n_Grow_api_Entry : FuncId := 59
abbrev t_api_Code : TypeId := 45
def hintC : FuncId → Hint
  | 5 => { loops := [(13, clr 143 [1, 2, 3, 7, 8, 9, 15, 17]), (19, clr 143 [3, 7, 8, 9, 15, 20])], open_ := [19, 13] }
  | 8 => { loops := [(12, clr 116 [2, 5, 7, 10, 14])], open_ := [12] }
  | 18 => { loops := [(4, clr 30 [1, 3])], open_ := [4] }
  | 19 => { loops := [(5, clr 75 [1, 2, 3, 6, 22, 23, 24])] }
  | 20 => { loops := [(6, clr 109 [1, 3, 5])] }
  | 22 => { loops := [(6, clr 92 [2, 3, 6, 10, 11])], blks := [(1000009, clr 92 [2, 3, 6, 10, 11])], open_ := [6] }
  | 23 => { loops := [(4, clr 15 [0, 3])], open_ := [4] }
  | 24 => { loops := [(5, clr 54 [3, 40, 41, 42])] }
  | 30 => { loops := [(4, clr 49 [2, 5])] }
  | 34 => { loops := [(4, clr 26 [0, 1, 5])], open_ := [4] }
  | 35 => { loops := [(3, clr 45 [1, 2, 5, 6])], open_ := [3] }
  | 36 => { loops := [(4, clr 56 [0, 1, 5])], open_ := [4] }
  | 37 => { acts := [(1, 0, 2)], loops := [(5, clr 48 [2, 3, 7, 8])], open_ := [5] }
  | 48 => { acts := [(9, 1, 1)], loops := [(3, clr 36 [0, 3, 9, 10, 11]), (11, clr 36 [6, 25, 26, 27])], open_ := [11, 3] }
  | 49 => { loops := [(4, clr 46 [0, 3])], open_ := [4] }
  | 50 => { acts := [(3, 0, 2)], loops := [(5, clr 29 [0, 4, 5])], open_ := [5] }
  | 52 => { loops := [(2, clr 35 [0, 5, 6, 7])], open_ := [2] }
  | 54 => { acts := [(3, 0, 1)] }
  | 55 => { acts := [(1, 0, 2)], loops := [(3, clr 24 [4, 7, 8, 9])], open_ := [3] }
  | 56 => { acts := [(3, 0, 1)] }
  | 59 => { keep := true, raw := true, acts := [(5, 8, 5)] }
  | _ => {}
/-- without what slices.Clone is taken for -/
noncomputable def C0 : Cfg := { P := Try.prog, G := fun _ => none, I := fun _ => none, hint := hintC }
noncomputable def C : Cfg := { P := Try.prog, G := fun _ => none, I := clonesI C0 [n_Clone_api_Entry, n_Clone_int], hint := hintC }
end Go.Pm
