/- A part of the proof: what the functions of the program answer, as plain lists and numbers. -/
import Derived.Test.YtaoklfecdcakbaaDoorP10
import Derived.Test.YtaoklfecdcakbaaDoorP20
namespace Go.Pm
open Go.Proofs
set_option linter.unusedVariables false
set_option linter.unusedSimpArgs false
theorem cmpE : cmpT Tryd.prog t_api_Code = true := by kernel_rfl
theorem eqlE (ms : Array (String × TypeId)) (n m : Int) (hm : m ≠ 0) : binA .eql (.interface ms) (cmpT Tryd.prog) false (errA n) (.ifc t_api_Code (.int .i64 m)) = some (.bool (decide (n = m))) := by
  unfold errA
  split
  · rename_i h; subst h
    have : decide ((0 : Int) = m) = false := by simp; omega
    rw [this]; rfl
  · simp [codeA, binA, eqA, cmpE]
theorem eqlE0 (ms : Array (String × TypeId)) (c : TypeId → Bool) (n : Int) : binA .eql (.interface ms) c true (errA n) .nili = some (.bool (decide (n = 0))) := by
  unfold errA
  split
  · rename_i h; simp [h, binA, eqA]
  · rename_i h; simp [h, codeA, binA, eqA]
theorem neqE0 (ms : Array (String × TypeId)) (c : TypeId → Bool) (n : Int) : binA .neq (.interface ms) c true (errA n) .nili = some (.bool (!decide (n = 0))) := by
  unfold errA
  split
  · rename_i h; simp [h, binA, eqA]
  · rename_i h; simp [h, codeA, binA, eqA]
end Go.Pm
