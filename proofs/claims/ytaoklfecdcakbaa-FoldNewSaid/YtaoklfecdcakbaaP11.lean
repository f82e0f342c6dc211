/- A part of the proof: what the functions of the program answer, as plain lists and numbers. -/
import Derived.Test.YtaoklfecdcakbaaP8
import Derived.Test.YtaoklfecdcakbaaP10
namespace Go.Pm
open Go.Proofs
set_option linter.unusedVariables false
set_option linter.unusedSimpArgs false
theorem w64 {x : Int} {n : Nat} (h : x = n) (h1 : n < 2^63) : IntKind.i64.wrap x = (n : Int) := by subst h; rw [wrap64] <;> omega
@[simp] theorem offA_ptr (l tot i off k : Nat) : offA (.ptr l tot i off) k = some (.ptr l tot i (off + k)) := rfl
@[simp] theorem offA_ip (cs : List AV) (k : Nat) : offA (.ip cs) k = some (.ip (cs.drop k)) := rfl
@[simp] theorem loadA_ipc (c : AV) (cs : List AV) (H : List AObj) : loadA false 1 (.ip (c :: cs)) H = some c := rfl
end Go.Pm
