/- A part of the proof: what the functions of the program answer, as plain lists and numbers. -/
import Derived.Test.YtdihhoglamkfkaaPm31
import Derived.Test.YtdihhoglamkfkaaProg
namespace Go.Pm
open Go.Proofs
set_option linter.unusedVariables false
set_option maxRecDepth 100000
abbrev n_law16_WalScans : FuncId := 3
abbrev n_law16_up : FuncId := 9
abbrev n_wal_Scan : FuncId := 10
abbrev n_ref16_Scan : FuncId := 11
abbrev n_wal_Frame : FuncId := 12
abbrev n_wal_Sum : FuncId := 13
abbrev n_ref16_Sum : FuncId := 14
abbrev n_ref16_Same : FuncId := 15
abbrev n_ref16_Frame : FuncId := 16
abbrev n_wal_number : FuncId := 38
abbrev n_wal_check : FuncId := 39
abbrev n_Clone_byte : FuncId := 40
abbrev n_ref16_number : FuncId := 41
abbrev n_wal_four : FuncId := 42
abbrev n_Concat_byte : FuncId := 43
abbrev n_ref16_four : FuncId := 44
abbrev n_Grow_byte : FuncId := 57
abbrev t_api_Code : TypeId := 45
def hintC : FuncId → Hint
  | 9 => { acts := [(2, 0, 1)] }
  | 10 => { acts := [(1, 0, 2)], loops := [(3, clr 63 [0, 4, 5])], open_ := [3] }
  | 11 => { acts := [(1, 0, 2), (6, 0, 1), (6, 15, 3)], loops := [(3, clr 68 [0, 4, 5])] }
  | 13 => { loops := [(3, clr 31 [3, 7, 8, 9]), (7, clr 31 [3, 7, 8, 9, 17])], open_ := [7, 3] }
  | 14 => { loops := [(3, clr 35 [0, 3, 4]), (7, clr 35 [0, 3, 4, 5])], open_ := [7, 3] }
  | 15 => { loops := [(4, clr 28 [0, 1, 5])], open_ := [4] }
  | 16 => { acts := [(1, 3, 1), (2, 0, 1), (3, 3, 1)] }
  | 40 => { acts := [(3, 0, 1)] }
  | 43 => { acts := [(9, 1, 1)], loops := [(3, clr 36 [0, 3, 9, 10, 11]), (11, clr 36 [6, 25, 26, 27])], open_ := [11, 3] }
  | 44 => { keep := true, raw := true, acts := [(1, 14, 1)] }
  | 57 => { keep := true, raw := true, acts := [(5, 8, 5)] }
  | _ => {}
/-- without what slices.Clone is taken for -/
noncomputable def C0 : Cfg := { P := Try.prog, G := fun _ => none, I := fun _ => none, hint := hintC }
noncomputable def C : Cfg := { P := Try.prog, G := fun _ => none, I := clonesI C0 [n_Clone_byte], hint := hintC }
end Go.Pm
