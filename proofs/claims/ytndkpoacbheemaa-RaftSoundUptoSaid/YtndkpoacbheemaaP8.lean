/- A part of the proof: what the functions of the program answer, as plain lists and numbers. -/
import Derived.Test.YtndkpoacbheemaaProg
import Derived.Test.YtndkpoacbheemaaP7
namespace Go.Pm
open Go.Proofs
set_option linter.unusedVariables false
set_option maxRecDepth 100000
abbrev n_law19_RaftSound : FuncId := 4
abbrev n_law19_up : FuncId := 8
abbrev n_ref18_Light : FuncId := 9
abbrev n_raft_New : FuncId := 10
abbrev n_ref19_Light : FuncId := 13
abbrev n_raft_Step : FuncId := 14
abbrev n_raft_Check : FuncId := 15
abbrev n_ref18_Term : FuncId := 16
abbrev n_raft_timeout : FuncId := 29
abbrev n_raft_stepper_tick : FuncId := 34
abbrev n_raft_stepper_msg : FuncId := 35
abbrev n_raft_stepper_last : FuncId := 36
abbrev n_raft_stepper_propose : FuncId := 37
abbrev n_raft_stepper_change : FuncId := 38
abbrev n_log_Compact : FuncId := 39
abbrev n_log_Check : FuncId := 40
abbrev n_log_Last : FuncId := 41
abbrev n_raft_in : FuncId := 42
abbrev n_Contains_int : FuncId := 43
abbrev n_raft_stepper_others : FuncId := 54
abbrev n_raft_stepper_bring : FuncId := 55
abbrev n_conf_Has : FuncId := 56
abbrev n_raft_stepper_members : FuncId := 57
abbrev n_raft_stepper_stands : FuncId := 58
abbrev n_raft_stepper_send : FuncId := 59
abbrev n_raft_stepper_ask : FuncId := 60
abbrev n_Clone_int : FuncId := 61
abbrev n_conf_Most : FuncId := 62
abbrev n_raft_stepper_leads : FuncId := 63
abbrev n_raft_stepper_app : FuncId := 64
abbrev n_raft_stepper_snap : FuncId := 65
abbrev n_raft_stepper_ack : FuncId := 66
abbrev n_raft_stepper_add : FuncId := 67
abbrev n_raft_stepper_counts : FuncId := 68
abbrev n_log_Term : FuncId := 69
abbrev n_conf_Step : FuncId := 70
abbrev n_raft_stepper_pending : FuncId := 71
abbrev n_conf_Bytes : FuncId := 72
abbrev n_log_asked : FuncId := 73
abbrev n_log_term : FuncId := 74
abbrev n_log_Members : FuncId := 75
abbrev n_Clone_api_Entry : FuncId := 76
abbrev n_log_count : FuncId := 77
abbrev n_conf_May : FuncId := 78
abbrev n_log_entry : FuncId := 79
abbrev n_log_last : FuncId := 80
abbrev n_Index_int : FuncId := 81
abbrev n_log_Slice : FuncId := 84
abbrev n_raft_stepper_stands_1 : FuncId := 85
abbrev n_raft_stepper_follows : FuncId := 86
abbrev n_log_Merge : FuncId := 87
abbrev n_ContainsFunc_api_Entry : FuncId := 88
abbrev n_raft_stepper_app_1 : FuncId := 89
abbrev n_Clone_byte : FuncId := 90
abbrev n_ContainsFunc_int : FuncId := 91
abbrev n_conf_Step_1 : FuncId := 92
abbrev n_raft_stepper_pending_1 : FuncId := 93
abbrev n_log_has : FuncId := 94
abbrev n_conf_Of : FuncId := 95
abbrev n_Concat_api_Entry : FuncId := 96
abbrev n_IndexFunc_api_Entry : FuncId := 97
abbrev n_IndexFunc_int : FuncId := 98
abbrev n_Grow_api_Entry : FuncId := 99
abbrev n_Clone_int_r : FuncId := 1000061
abbrev n_Clone_api_Entry_r : FuncId := 1000076
abbrev t_api_Code : TypeId := 39
def hintC : FuncId → Hint
 | 4 => { loops := [(10, clr 139 [2, 5, 7, 8, 12]), (15, clr 139 [2, 5, 7, 8, 13])], open_ := [15, 10] }
 | 5 => { acts := [(7, 0, 9), (7, 3, 9)] }
 | 8 => { acts := [(9, 1, 1)], loops := [(3, clr 69 [1, 2, 3])] }
 | 9 => { loops := [(4, clr 30 [1, 3])], open_ := [4] }
 | 14 => { acts := [(4, 1, 5)] }
 | 15 => { loops := [(6, clr 119 [1, 5, 74]), (11, clr 119 [1, 5, 94, 95, 96])], open_ := [11, 6] }
 | 17 => { acts := [(1, 6, 9), (1, 10, 9), (1, 12, 5), (1, 14, 10), (5, 14, 9), (5, 21, 9)], loops := [(3, clr 52 [1, 2, 3, 4])], open_ := [3], subs := [(1, 13, 14)] }
 | 18 => { loops := [(4, clr 56 [0, 1, 5])], open_ := [4] }
 | 19 => { loops := [(4, clr 29 [0, 1, 5])], open_ := [4] }
 | 31 => { loops := [(10, clr 154 [1, 5]), (15, clr 154 [1, 6])], open_ := [15, 10] }
 | 33 => { loops := [(4, clr 26 [0, 1, 5])], open_ := [4] }
 | 34 => { evs := [(6, 11)] }
 | 35 => { acts := [(18, 5, 7), (18, 9, 3)], blks := [(1000005, clr 178 [0, 3, 4]), (1000019, clr 178 [0, 4])], evs := [(11, 4), (11, 6), (19, 1), (26, 7)] }
 | 38 => { loops := [(7, clr 103 [0, 4, 5, 8, 76, 77, 78])], open_ := [7], evs := [(10, 5)] }
 | 40 => { loops := [(5, clr 54 [3, 40, 41, 42])] }
 | 51 => { loops := [(6, clr 109 [1, 3, 5])] }
 | 53 => { loops := [(2, clr 18 [0, 1, 5])], open_ := [2] }
 | 54 => { loops := [(1, clr 24 [0, 1, 7, 8, 9])], open_ := [1] }
 | 55 => { evs := [(3, 10), (7, 18)] }
 | 57 => { evs := [(1, 6)] }
 | 58 => { evs := [(4, 1)] }
 | 60 => { blks := [(1000004, clr 73 [0, 3, 4, 7]), (1000006, clr 73 [0, 3, 7])] }
 | 61 => { acts := [(3, 0, 9), (3, 2, 9)] }
 | 62 => { loops := [(3, clr 29 [0, 1, 5, 8, 9, 10])], open_ := [3] }
 | 63 => { loops := [(3, clr 49 [0, 2, 23])], open_ := [3], evs := [(5, 5)] }
 | 64 => { blks := [(1000011, clr 128 [0, 3, 4, 5, 6])], evs := [(10, 6), (10, 10)] }
 | 65 => { blks := [(1000013, clr 121 [0, 3, 4, 6])], evs := [(5, 8)] }
 | 66 => { evs := [(5, 3), (9, 14)] }
 | 67 => { acts := [(1, 7, 7), (1, 18, 3)] }
 | 68 => { acts := [(8, 0, 2)], loops := [(4, clr 95 [0, 2, 3, 4]), (10, clr 95 [0, 2, 3, 4, 7, 57, 58])], open_ := [10], evs := [(1, 6)] }
 | 71 => { evs := [(1, 12)] }
 | 72 => { acts := [(3, 0, 2)], loops := [(5, clr 24 [4, 11, 12, 13])], open_ := [5] }
 | 75 => { loops := [(4, clr 49 [2, 5])] }
 | 76 => { acts := [(3, 0, 9), (3, 2, 9)] }
 | 78 => { loops := [(2, clr 35 [0, 5, 6, 7])], open_ := [2] }
 | 81 => { loops := [(2, clr 19 [0, 1, 7, 8])], open_ := [2] }
 | 82 => { acts := [(3, 0, 2)], loops := [(5, clr 29 [0, 4, 5])], open_ := [5] }
 | 83 => { loops := [(4, clr 46 [0, 3])], open_ := [4] }
 | 87 => { loops := [(5, clr 75 [1, 2, 3, 6, 22, 23, 24])] }
 | 90 => { acts := [(3, 0, 9), (3, 2, 9)] }
 | 95 => { acts := [(1, 0, 2)], loops := [(3, clr 24 [4, 7, 8, 9])], open_ := [3] }
 | 96 => { acts := [(9, 1, 1)], loops := [(3, clr 36 [0, 3, 9, 10, 11]), (11, clr 36 [6, 25, 26, 27])], open_ := [11, 3] }
 | 97 => { loops := [(2, clr 19 [0, 1, 7, 8])], open_ := [2] }
 | 98 => { loops := [(2, clr 19 [0, 1, 7, 8])], open_ := [2] }
 | 99 => { keep := true, raw := true, acts := [(5, 8, 5)] }
 | 1000076 => { keep := true, raw := true, acts := [(3, 0, 9)] }
 | 1000061 => { keep := true, raw := true, acts := [(3, 0, 9)] }
 | _ => {}
/-- without what slices.Clone is taken for -/
noncomputable def C0 : Cfg := { P := Try.prog, G := fun _ => none, I := fun _ => none, hint := hintC }
noncomputable def C : Cfg := { P := Try.prog, G := fun _ => none, I := clonesI C0 [n_Clone_int, n_Clone_api_Entry, n_Clone_byte, n_Clone_api_Entry_r, n_Clone_int_r], hint := hintC }
end Go.Pm
