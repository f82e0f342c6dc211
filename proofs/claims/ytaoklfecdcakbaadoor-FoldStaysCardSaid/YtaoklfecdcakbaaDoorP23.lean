/- A part of the proof: what the functions of the program answer, as plain lists and numbers. -/
import Derived.Test.YtaoklfecdcakbaaDoorP21
namespace Go.Pm
open Go.Proofs
set_option linter.unusedVariables false
set_option linter.unusedSimpArgs false
def Tre.nil : Tre := .mk 0 [] [] [] []
theorem nil_ok : Tre.nil.ok := by simp [Tre.nil, Tre.ok, okL]
theorem fill_nil {β : Type} (K : List AV → Option β) : (fillB (AV.cells (.agg [(.int .i64 0), .nils, .nils, .nils, .nils])) []).bind K = K [.int .i64 0, .nils, .nils, .nils, .nils] := Eq.trans rfl rfl
theorem frz_nil0 (H : List AObj) : frz H (.agg [.int .i64 0, .nils, .nils, .nils, .nils]) = some Tre.nil.av := Eq.trans rfl rfl
theorem new_z {β : Type} (H : List AObj) (K : AV → List AObj → List Nat → Option β) : newK (.agg [(.int .i64 0), .nils, .nils, .nils, .nils]) H K = K (.ptr H.length 1 0 0) (H ++ [.row 5 [.agg [(.int .i64 0), .nils, .nils, .nils, .nils]]]) [] := Eq.trans rfl rfl
end Go.Pm
