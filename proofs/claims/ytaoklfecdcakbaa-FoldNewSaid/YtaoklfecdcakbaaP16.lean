/- A part of the proof: what the functions of the program answer, as plain lists and numbers. -/
import Derived.Test.YtaoklfecdcakbaaP10
import Derived.Test.YtaoklfecdcakbaaP13
namespace Go.Pm
open Go.Proofs
set_option linter.unusedVariables false
set_option linter.unusedSimpArgs false
theorem ld_fld {H : List AObj} {l z j : Nat} {cs : List AV} {v : AV} (h : H[l]? = some (.row z [.agg cs])) (hv : cs[j]? = some v) : loadA false 1 (.ptr l 1 0 j) H = some v := by
  simp only [loadA, h, List.length_singleton, if_true, List.getElem?_cons_zero, Option.bind_some, AV.cells, ldv, Bool.false_eq_true, if_false]
  rw [List.getElem?_drop, Nat.add_zero, hv]
theorem ld_agg {H : List AObj} {l z : Nat} {cs : List AV} (h : H[l]? = some (.row z [.agg cs])) (hz : cs.length = z) : loadA true z (.ptr l 1 0 0) H = some (.agg cs) := by
  simp only [loadA, h, List.length_singleton, if_true, List.getElem?_cons_zero, Option.bind_some, AV.cells, ldv, List.drop_zero]
  rw [if_pos (by omega), List.take_of_length_le (by omega)]
theorem new_agg {β : Type} {cs : List AV} (h0 : cs ≠ []) (h1 : cs.all AV.one = true) (H : List AObj) (K : AV → List AObj → List Nat → Option β) : newK (.agg cs) H K = K (.ptr H.length 1 0 0) (H ++ [.row cs.length [.agg cs]]) [] := by
  have : newA (.agg cs) H = some (.ptr H.length 1 0 0, H ++ [.row cs.length [.agg cs]], []) := by
    unfold newA; rw [if_pos ⟨h0, h1⟩]; rfl
  unfold newK; rw [this]; rfl
end Go.Pm
