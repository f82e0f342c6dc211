/- A part of the proof: what the functions of the program answer, as plain lists and numbers. -/
import Derived.Test.YtaoklfecdcakbaaP10
import Derived.Test.YtaoklfecdcakbaaP12
namespace Go.Pm
open Go.Proofs
set_option linter.unusedVariables false
set_option linter.unusedSimpArgs false
theorem not_bool (b : Bool) : unA .not (.bool b) = some (.bool (!b)) := rfl
/-- an error's code -/
def codeA (n : Int) : AV := .ifc t_api_Code (.int .i64 n)
@[simp] theorem good_code (n : Int) : (codeA n).good = true := rfl
theorem neq_nil1 (ms : Array (String × TypeId)) (c : TypeId → Bool) : binA .neq (.interface ms) c true .nili .nili = some (.bool false) := rfl
theorem eql_nil1 (ms : Array (String × TypeId)) (c : TypeId → Bool) : binA .eql (.interface ms) c true .nili .nili = some (.bool true) := rfl
theorem dec_iff {p q : Prop} [Decidable p] [Decidable q] (h : p ↔ q) : decide p = decide q := by simp [h]
end Go.Pm
