/- A part of the proof: what the functions of the program answer, as plain lists and numbers. -/
import Derived.Test.YtaoklfecdcakbaaDoorP10
import Derived.Test.YtaoklfecdcakbaaDoorP15
namespace Go.Pm
open Go.Proofs
set_option linter.unusedVariables false
set_option linter.unusedSimpArgs false
theorem ld_fld {H : List AObj} {l z j : Nat} {cs : List AV} {v : AV} (h : H[l]? = some (.row z [.agg cs])) (hv : cs[j]? = some v) : loadA false 1 (.ptr l 1 0 j) H = some v := by
  simp only [loadA, h, List.length_singleton, if_true, List.getElem?_cons_zero, Option.bind_some, AV.cells, ldv, Bool.false_eq_true, if_false]
  rw [List.getElem?_drop, Nat.add_zero, hv]
theorem ld_agg {H : List AObj} {l z : Nat} {cs : List AV} (h : H[l]? = some (.row z [.agg cs])) (hz : cs.length = z) : loadA true z (.ptr l 1 0 0) H = some (.agg cs) := by
  simp only [loadA, h, List.length_singleton, if_true, List.getElem?_cons_zero, Option.bind_some, AV.cells, ldv, List.drop_zero]
  rw [if_pos (by omega), List.take_of_length_le (by omega)]
theorem sto_fld {β : Type} {H : List AObj} {l z j : Nat} {cs : List AV} {v : AV} {K : List AObj → List Nat → Option β} (h : H[l]? = some (.row z [.agg cs])) (hj : j < cs.length) (hv : v.cells = [v]) (h1 : v.one = true) :
    stoK 1 (.ptr l 1 0 j) v H K = K (H.set l (.row z [.agg (cs.set j v)])) (escs l [v]) := by
  have h2 : storeA 1 (.ptr l 1 0 j) v H = some (H.set l (.row z [.agg (cs.set j v)]), escs l [v]) := by
    unfold storeA
    simp only [h, List.length_singleton, hv]
    rw [if_pos ⟨trivial, trivial, by simp [h1]⟩]
    have h3 : setC (.agg cs) j [v] = some (.agg (cs.set j v)) := by
      simp only [setC, List.length_singleton]
      rw [if_pos (by omega), List.set_eq_take_append_cons_drop, if_pos hj]
      simp
    simp only [List.getElem?_cons_zero, Option.bind_some, h3, Option.map_some, List.set_cons_zero]
  unfold stoK; rw [h2]; rfl
theorem sto_agg {β : Type} {H : List AObj} {l z : Nat} {cs ds : List AV} {K : List AObj → List Nat → Option β} (h : H[l]? = some (.row z [.agg cs])) (hz : cs.length = z) (hd : ds.length = z) (h1 : ds.all AV.one = true) :
    stoK z (.ptr l 1 0 0) (.agg ds) H K = K (H.set l (.row z [.agg ds])) (escs l ds) := by
  have h2 : storeA z (.ptr l 1 0 0) (.agg ds) H = some (H.set l (.row z [.agg ds]), escs l ds) := by
    unfold storeA
    simp only [h, List.length_singleton, AV.cells]
    rw [if_pos ⟨trivial, hd, h1⟩]
    have h3 : setC (.agg cs) 0 ds = some (.agg ds) := by
      simp only [setC]
      rw [if_pos (by omega)]
      simp [hd, ← hz]
    simp only [List.getElem?_cons_zero, Option.bind_some, h3, Option.map_some, List.set_cons_zero]
  unfold stoK; rw [h2]; rfl
theorem new_agg {β : Type} {cs : List AV} (h0 : cs ≠ []) (h1 : cs.all AV.one = true) (H : List AObj) (K : AV → List AObj → List Nat → Option β) : newK (.agg cs) H K = K (.ptr H.length 1 0 0) (H ++ [.row cs.length [.agg cs]]) [] := by
  have : newA (.agg cs) H = some (.ptr H.length 1 0 0, H ++ [.row cs.length [.agg cs]], []) := by
    unfold newA; rw [if_pos ⟨h0, h1⟩]; rfl
  unfold newK; rw [this]; rfl
end Go.Pm
