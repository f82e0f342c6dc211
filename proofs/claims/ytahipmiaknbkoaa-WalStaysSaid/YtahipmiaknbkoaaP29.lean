/- A part of the proof: what the functions of the program answer, as plain lists and numbers. -/
import Derived.Test.YtahipmiaknbkoaaP24
namespace Go.Pm
open Go.Proofs
set_option linter.unusedVariables false
set_option linter.unusedSimpArgs false
def i64 (n : Int) : AV := .int .i64 n
theorem lenV_strs (l : List (List UInt8)) (H : List AObj) : lenV (strs l) H = some (.int .i64 l.length) := by simp [strs]
theorem ix_strs {l : List (List UInt8)} {i : Nat} (h : i < l.length) (H : List AObj) : ixA 1 (strs l) (.int .i64 (i : Int)) H = some (.ip [sv l[i]]) := by
  unfold strs
  exact ixA_lst (e := sv l[i]) (by omega) (by simp [h]) rfl
structure FilOk (f : Fil) : Prop where
  a : 0 ≤ f.sy
  b : f.sy ≤ f.b.length
  c : f.b.length < 2^41
theorem sort_mem {nm : List UInt8} {l : List (List UInt8)} : nm ∈ sortL l ↔ nm ∈ l := by
  unfold sortL; exact List.mem_mergeSort
theorem sort_len (l : List (List UInt8)) : (sortL l).length = l.length := by unfold sortL; exact List.length_mergeSort l
theorem mem_get {α β : Type} [DecidableEq α] {k : α} : ∀ {es : List (α × β)}, k ∈ es.map (·.1) → ∃ v, getL k es = some v ∧ (k, v) ∈ es
  | [], h => by cases h
  | p :: es, h => by
    unfold getL
    by_cases e : k = p.1
    · rw [if_pos e]; exact ⟨p.2, rfl, by rw [e]; exact List.mem_cons_self ..⟩
    · rw [if_neg e]
      simp only [List.map_cons, List.mem_cons] at h
      obtain ⟨v, h1, h2⟩ := mem_get (h.resolve_left e)
      exact ⟨v, h1, List.mem_cons_of_mem _ h2⟩
theorem ok_fil {d : Dk} (ho : d.ok) {nm : List UInt8} {f : Fil} (h : getL nm d.fs = some f) : FilOk f := by
  have h1 := ho.s1; have h2 := ho.t; have h3 := tot_get h
  have h4 := ho.sy _ (getL_mem h)
  exact ⟨h4.1, h4.2, by omega⟩
end Go.Pm
