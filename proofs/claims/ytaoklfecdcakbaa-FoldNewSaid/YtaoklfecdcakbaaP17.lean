/- A part of the proof: what the functions of the program answer, as plain lists and numbers. -/
import Derived.Test.YtaoklfecdcakbaaP14
namespace Go.Pm
open Go.Proofs
set_option linter.unusedVariables false
set_option linter.unusedSimpArgs false
theorem formed_kids {t : Tre} (h : formedF t = true) : ∀ k ∈ t.kids, formedF k = true := by
  rw [formedF_eq, Bool.and_eq_true] at h
  exact fun k hk => List.all_eq_true.1 h.2 k hk
theorem formed_node {t : Tre} (h : formedF t = true) (h0 : t.kind ≠ 0) (h3 : t.kind ≠ 3) : (t.kind = 1 ∨ t.kind = 2) ∧ t.key.length ≤ 80 ∧ t.value.length ≤ 1024 ∧ ∃ l r, t.kids = [l, r] := by
  rw [formedF_eq, Bool.and_eq_true] at h
  have h1 := h.1
  have two : t.kids.length = 2 → ∃ l r, t.kids = [l, r] := fun h => by
    rcases hx : t.kids with _ | ⟨l, _ | ⟨r, _ | ⟨x, tl⟩⟩⟩ <;> rw [hx] at h <;> simp at h
    exact ⟨l, r, rfl⟩
  unfold formed1 at h1
  rw [if_neg h0] at h1
  split at h1
  · simp only [Bool.and_eq_true, decide_eq_true_eq] at h1
    exact ⟨.inl ‹_›, h1.1, h1.2.1, two h1.2.2.2⟩
  · split at h1
    · simp only [Bool.and_eq_true, decide_eq_true_eq] at h1
      exact ⟨.inr ‹_›, h1.1, by omega, two h1.2.2⟩
    · first | cases h1 | (split at h1 <;> first | exact absurd ‹_› h3 | cases h1)
theorem nq2 (ms : Array (String × TypeId)) (c : TypeId → Bool) (n : Int) : binA .neq (.interface ms) c true (codeA n) .nili = some (.bool true) := rfl
theorem errA_ne {n : Int} (h : n ≠ 0) : errA n = codeA n := by unfold errA; rw [if_neg h]
theorem check_formed {t : Tre} (h : checkF t = 0) : formedF t = true := by
  unfold checkF at h
  split at h
  · omega
  · split at h
    · assumption
    · omega
end Go.Pm
