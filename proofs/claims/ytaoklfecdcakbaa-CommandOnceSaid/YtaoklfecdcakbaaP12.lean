/- A part of the proof: what the functions of the program answer, as plain lists and numbers. -/
import Derived.Test.YtaoklfecdcakbaaP11
namespace Go.Pm
open Go.Proofs
set_option linter.unusedVariables false
set_option linter.unusedSimpArgs false
theorem getD_some {ws : List UInt32} {i : Nat} (h : i < ws.length) : ws[i]? = some (ws.getD i 0) := by
  simp [List.getElem?_eq_getElem h, List.getD_eq_getElem?_getD]
end Go.Pm
