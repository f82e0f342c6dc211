/- A part of the proof: what the functions of the program answer, as plain lists and numbers. -/
import Derived.Test.YtndkpoacbheemaaGreatProg
import Derived.Test.YtndkpoacbheemaaGreatP7
namespace Go.Pm
set_option linter.unusedVariables false
open Go.Proofs
set_option linter.unusedVariables false
set_option maxRecDepth 100000
abbrev n_law19_RaftPlays : FuncId := 4
abbrev n_law19_up : FuncId := 5
abbrev n_ref19_Light : FuncId := 6
abbrev n_raft_Step : FuncId := 7
abbrev n_raft_Check : FuncId := 8
abbrev n_ref19_Same : FuncId := 10
abbrev n_ref19_Step : FuncId := 11
abbrev n_ref19_SameMsgs : FuncId := 12
abbrev n_raft_New : FuncId := 13
abbrev n_ref18_Light : FuncId := 14
abbrev n_raft_stepper_tick : FuncId := 15
abbrev n_raft_stepper_msg : FuncId := 16
abbrev n_raft_stepper_last : FuncId := 17
abbrev n_raft_stepper_propose : FuncId := 18
abbrev n_raft_stepper_change : FuncId := 19
abbrev n_log_Compact : FuncId := 20
abbrev n_log_Check : FuncId := 21
abbrev n_log_Last : FuncId := 22
abbrev n_raft_in : FuncId := 23
abbrev n_Contains_int : FuncId := 24
abbrev n_ref18_Check : FuncId := 25
abbrev n_ref18_Last : FuncId := 26
abbrev n_ref19_count : FuncId := 27
abbrev n_ref18_Term : FuncId := 28
abbrev n_ref17_Has : FuncId := 29
abbrev n_ref18_Same : FuncId := 30
abbrev n_ref17_Same : FuncId := 31
abbrev n_ref19_Run_last : FuncId := 32
abbrev n_ref19_Run_tick : FuncId := 33
abbrev n_ref19_Run_hear : FuncId := 34
abbrev n_ref19_Run_add : FuncId := 35
abbrev n_ref19_Run_counts : FuncId := 36
abbrev n_ref19_Run_sendAll : FuncId := 37
abbrev n_ref19_Run_members : FuncId := 38
abbrev n_ref17_Step : FuncId := 39
abbrev n_ref19_Run_open : FuncId := 40
abbrev n_ref17_Bytes : FuncId := 41
abbrev n_ref18_Compact : FuncId := 42
abbrev n_ref19_SameMsg : FuncId := 43
abbrev n_raft_timeout : FuncId := 44
abbrev n_raft_stepper_others : FuncId := 45
abbrev n_raft_stepper_bring : FuncId := 46
abbrev n_conf_Has : FuncId := 47
abbrev n_raft_stepper_members : FuncId := 48
abbrev n_raft_stepper_stands : FuncId := 49
abbrev n_raft_stepper_send : FuncId := 50
abbrev n_raft_stepper_ask : FuncId := 51
abbrev n_Clone_int : FuncId := 52
abbrev n_conf_Most : FuncId := 53
abbrev n_raft_stepper_leads : FuncId := 54
abbrev n_raft_stepper_app : FuncId := 55
abbrev n_raft_stepper_snap : FuncId := 56
abbrev n_raft_stepper_ack : FuncId := 57
abbrev n_raft_stepper_add : FuncId := 58
abbrev n_raft_stepper_counts : FuncId := 59
abbrev n_log_Term : FuncId := 60
abbrev n_conf_Step : FuncId := 61
abbrev n_raft_stepper_pending : FuncId := 62
abbrev n_conf_Bytes : FuncId := 63
abbrev n_log_asked : FuncId := 64
abbrev n_log_term : FuncId := 65
abbrev n_log_Members : FuncId := 66
abbrev n_Clone_api_Entry : FuncId := 67
abbrev n_log_count : FuncId := 68
abbrev n_conf_May : FuncId := 69
abbrev n_log_entry : FuncId := 70
abbrev n_log_last : FuncId := 71
abbrev n_Index_int : FuncId := 72
abbrev n_ref17_May : FuncId := 73
abbrev n_ref17_Of : FuncId := 74
abbrev n_ref18_SameEntries : FuncId := 75
abbrev n_ref19_timeout : FuncId := 76
abbrev n_ref19_Run_most : FuncId := 77
abbrev n_ref19_Run_leads : FuncId := 78
abbrev n_ref19_Run_say : FuncId := 79
abbrev n_ref19_Run_top : FuncId := 80
abbrev n_ref19_Run_take : FuncId := 81
abbrev n_ref19_Run_install : FuncId := 82
abbrev n_ref19_Run_acked : FuncId := 83
abbrev n_ref19_Run_sendTo : FuncId := 84
abbrev n_ref18_Members : FuncId := 85
abbrev n_log_Slice : FuncId := 86
abbrev n_raft_stepper_stands_1 : FuncId := 87
abbrev n_raft_stepper_follows : FuncId := 88
abbrev n_log_Merge : FuncId := 89
abbrev n_ContainsFunc_api_Entry : FuncId := 90
abbrev n_raft_stepper_app_1 : FuncId := 91
abbrev n_Clone_byte : FuncId := 92
abbrev n_ContainsFunc_int : FuncId := 93
abbrev n_conf_Step_1 : FuncId := 94
abbrev n_raft_stepper_pending_1 : FuncId := 95
abbrev n_log_has : FuncId := 96
abbrev n_conf_Of : FuncId := 97
abbrev n_ref17_Most : FuncId := 98
abbrev n_ref19_Run_follow : FuncId := 99
abbrev n_ref18_Merge : FuncId := 100
abbrev n_ref18_Has : FuncId := 101
abbrev n_ref18_Slice : FuncId := 102
abbrev n_Concat_api_Entry : FuncId := 103
abbrev n_IndexFunc_api_Entry : FuncId := 104
abbrev n_IndexFunc_int : FuncId := 105
abbrev n_Grow_api_Entry : FuncId := 106
abbrev n_Clone_int_r : FuncId := 1000052
abbrev n_Clone_api_Entry_r : FuncId := 1000067
abbrev t_api_Code : TypeId := 48
def hintC : FuncId → Hint
 | 3 => { acts := [(10, 2, 1)] }
 | 4 => { acts := [(13, 5, 1), (17, 3, 3)], loops := [(7, clr 104 [2, 7, 8, 10, 11])] }
 | 5 => { acts := [(9, 1, 1)], loops := [(3, clr 69 [1, 2, 3])] }
 | 7 => { acts := [(4, 1, 5)] }
 | 8 => { loops := [(6, clr 119 [1, 5, 74]), (11, clr 119 [1, 5, 94, 95, 96])], open_ := [11, 6] }
 | 9 => { loops := [(10, clr 154 [1, 5]), (15, clr 154 [1, 6])], open_ := [15, 10] }
 | 11 => { keep := true, raw := true, acts := [(1, 1, 5)], loops := [(22, clr 171 [3, 5, 7, 11])], open_ := [22], evs := [(26, 3)] }
 | 12 => { loops := [(4, clr 29 [0, 1, 5])], open_ := [4] }
 | 14 => { loops := [(4, clr 30 [1, 3])], open_ := [4] }
 | 15 => { evs := [(6, 11)] }
 | 16 => { acts := [(18, 5, 7), (18, 9, 3)], blks := [(1000005, clr 178 [0, 3, 4]), (1000019, clr 178 [0, 4])], evs := [(11, 4), (11, 6), (19, 1), (26, 7)] }
 | 19 => { loops := [(7, clr 103 [0, 4, 5, 8, 76, 77, 78])], open_ := [7], evs := [(10, 5)] }
 | 21 => { loops := [(5, clr 54 [3, 40, 41, 42])] }
 | 25 => { loops := [(6, clr 109 [1, 3, 5])] }
 | 29 => { loops := [(2, clr 18 [0, 1, 5])], open_ := [2] }
 | 31 => { loops := [(4, clr 26 [0, 1, 5])], open_ := [4] }
 | 33 => { loops := [(20, clr 157 [0, 6, 7])], open_ := [20], evs := [(6, 1), (23, 6), (23, 8), (23, 10)] }
 | 34 => { acts := [(20, 1, 1), (20, 11, 3)], evs := [(11, 32), (11, 38), (11, 44), (26, 4), (26, 6), (31, 4), (31, 6), (34, 1)] }
 | 35 => { acts := [(1, 0, 1), (2, 11, 3)] }
 | 36 => { acts := [(5, 0, 2)], loops := [(3, clr 104 [0, 2, 3]), (7, clr 104 [0, 2, 3, 4, 5])], open_ := [7], evs := [(0, 7), (15, 1)] }
 | 37 => { loops := [(2, clr 28 [0, 2, 3])], open_ := [2] }
 | 38 => { evs := [(1, 6)] }
 | 39 => { loops := [(5, clr 30 [0, 1, 5, 6])], open_ := [5] }
 | 40 => { loops := [(2, clr 39 [0, 3])], open_ := [2] }
 | 41 => { acts := [(1, 0, 2)], loops := [(3, clr 20 [0, 3, 4])], open_ := [3] }
 | 45 => { loops := [(1, clr 24 [0, 1, 7, 8, 9])], open_ := [1] }
 | 46 => { evs := [(3, 10), (7, 18)] }
 | 48 => { evs := [(1, 6)] }
 | 49 => { evs := [(4, 1)] }
 | 51 => { blks := [(1000004, clr 73 [0, 3, 4, 7]), (1000006, clr 73 [0, 3, 7])] }
 | 52 => { acts := [(3, 0, 9), (3, 2, 9)] }
 | 53 => { loops := [(3, clr 29 [0, 1, 5, 8, 9, 10])], open_ := [3] }
 | 54 => { loops := [(3, clr 49 [0, 2, 23])], open_ := [3], evs := [(5, 5)] }
 | 55 => { blks := [(1000011, clr 128 [0, 3, 4, 5, 6])], evs := [(10, 6), (10, 10)] }
 | 56 => { blks := [(1000013, clr 121 [0, 3, 4, 6])], evs := [(5, 8)] }
 | 57 => { evs := [(5, 3), (9, 14)] }
 | 58 => { acts := [(1, 7, 7), (1, 18, 3)] }
 | 59 => { acts := [(8, 0, 2)], loops := [(4, clr 95 [0, 2, 3, 4]), (10, clr 95 [0, 2, 3, 4, 7, 57, 58])], open_ := [10], evs := [(1, 6)] }
 | 62 => { evs := [(1, 12)] }
 | 63 => { acts := [(3, 0, 2)], loops := [(5, clr 24 [4, 11, 12, 13])], open_ := [5] }
 | 66 => { loops := [(4, clr 49 [2, 5])] }
 | 67 => { acts := [(3, 0, 9), (3, 2, 9)] }
 | 69 => { loops := [(2, clr 35 [0, 5, 6, 7])], open_ := [2] }
 | 72 => { loops := [(2, clr 19 [0, 1, 7, 8])], open_ := [2] }
 | 73 => { loops := [(4, clr 46 [0, 3])], open_ := [4] }
 | 74 => { acts := [(3, 0, 2)], loops := [(5, clr 29 [0, 4, 5])], open_ := [5] }
 | 75 => { loops := [(4, clr 56 [0, 1, 5])], open_ := [4] }
 | 78 => { loops := [(8, clr 53 [0, 2, 3])], open_ := [8] }
 | 80 => { evs := [(1, 6)] }
 | 81 => { loops := [(19, clr 146 [0, 3, 4, 5, 8, 9, 10, 11])], open_ := [19], evs := [(10, 2)] }
 | 82 => { evs := [(5, 9)] }
 | 83 => { evs := [(12, 3), (19, 15)] }
 | 84 => { evs := [(6, 24)] }
 | 85 => { loops := [(3, clr 45 [1, 2, 5, 6])], open_ := [3] }
 | 89 => { loops := [(5, clr 75 [1, 2, 3, 6, 22, 23, 24])] }
 | 92 => { acts := [(3, 0, 9), (3, 2, 9)] }
 | 97 => { acts := [(1, 0, 2)], loops := [(3, clr 24 [4, 7, 8, 9])], open_ := [3] }
 | 98 => { loops := [(4, clr 34 [0, 1, 5, 6, 7])], open_ := [4] }
 | 100 => { loops := [(6, clr 92 [2, 3, 6, 10, 11])], blks := [(1000009, clr 92 [2, 3, 6, 10, 11])], open_ := [6] }
 | 102 => { acts := [(1, 0, 2)], loops := [(5, clr 48 [2, 3, 7, 8])], open_ := [5] }
 | 103 => { acts := [(9, 1, 1)], loops := [(3, clr 36 [0, 3, 9, 10, 11]), (11, clr 36 [6, 25, 26, 27])], open_ := [11, 3] }
 | 104 => { loops := [(2, clr 19 [0, 1, 7, 8])], open_ := [2] }
 | 105 => { loops := [(2, clr 19 [0, 1, 7, 8])], open_ := [2] }
 | 106 => { keep := true, raw := true, acts := [(5, 8, 5)] }
 | 1000067 => { keep := true, raw := true, acts := [(3, 0, 9)] }
 | 1000052 => { keep := true, raw := true, acts := [(3, 0, 9)] }
 | _ => {}
/-- without what slices.Clone is taken for -/
noncomputable def C0 : Cfg := { P := Tryz.prog, G := fun _ => none, I := fun _ => none, hint := hintC }
noncomputable def C : Cfg := { P := Tryz.prog, G := fun _ => none, I := clonesI C0 [n_Clone_int, n_Clone_api_Entry, n_Clone_byte, n_Clone_api_Entry_r, n_Clone_int_r], hint := hintC }
noncomputable abbrev tI := Go.TypeDesc.int Go.IntKind.i64
noncomputable abbrev cT := cmpT Tryz.prog
noncomputable abbrev lK (h : Nat) (f : Func) (p : List Nat) (n : Nat) : St → Option R3 := loopK Tryz.prog C.G (EV C) (C.hint h) f (cAt (bodyOf f) (p ++ [0])) (kAt Tryz.prog C.G (EV C) (C.hint h) f (bodyOf f) p [] (endK Tryz.prog (C.hint h) f n))
abbrev z0 : AV := .int .i64 0
abbrev Kt (β : Type) := AV → List AObj → List Nat → Option β
end Go.Pm
