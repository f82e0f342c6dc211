/- A part of the proof: what the functions of the program answer, as plain lists and numbers. -/
import Derived.Test.YtaoklfecdcakbaaDoorP26
import Derived.Test.YtaoklfecdcakbaaDoorP27
namespace Go.Pm
open Go.Proofs
set_option linter.unusedVariables false
set_option linter.unusedSimpArgs false
theorem frzK_ok {β : Type} {v u : AV} {H : List AObj} {K : AV → List AObj → Option β} (h : frz H v = some u) : frzK v H K = K u (killAll H (kills v)) := by unfold frzK; rw [h]; rfl
end Go.Pm
