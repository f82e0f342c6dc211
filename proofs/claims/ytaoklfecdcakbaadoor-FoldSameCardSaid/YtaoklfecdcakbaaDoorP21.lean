/- A part of the proof: what the functions of the program answer, as plain lists and numbers. -/
import Derived.Test.YtaoklfecdcakbaaDoorP10
import Derived.Test.YtaoklfecdcakbaaDoorP20
namespace Go.Pm
open Go.Proofs
set_option linter.unusedVariables false
set_option linter.unusedSimpArgs false
theorem cmpE : cmpT Tryd.prog t_api_Code = true := by kernel_rfl
theorem eqlE0 (ms : Array (String × TypeId)) (c : TypeId → Bool) (n : Int) : binA .eql (.interface ms) c true (errA n) .nili = some (.bool (decide (n = 0))) := by
  unfold errA
  split
  · rename_i h; simp [h, binA, eqA]
  · rename_i h; simp [h, codeA, binA, eqA]
theorem neqE0 (ms : Array (String × TypeId)) (c : TypeId → Bool) (n : Int) : binA .neq (.interface ms) c true (errA n) .nili = some (.bool (!decide (n = 0))) := by
  unfold errA
  split
  · rename_i h; simp [h, binA, eqA]
  · rename_i h; simp [h, codeA, binA, eqA]
end Go.Pm
