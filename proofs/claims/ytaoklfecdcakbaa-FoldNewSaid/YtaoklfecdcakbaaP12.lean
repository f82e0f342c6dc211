/- A part of the proof: what the functions of the program answer, as plain lists and numbers. -/
import Derived.Test.YtaoklfecdcakbaaP11
namespace Go.Pm
open Go.Proofs
set_option linter.unusedVariables false
set_option linter.unusedSimpArgs false
theorem lenV_slc {H : List AObj} {l z n : Nat} {es : List AV} (h : H[l]? = some (.row z es)) (hn : n = es.length) : lenV (.slc l 0 n n) H = some (.int .i64 n) := by
  have : lenOf H l = some n := by unfold lenOf; simp [h, hn]
  simp [lenV, lenA, this]
end Go.Pm
