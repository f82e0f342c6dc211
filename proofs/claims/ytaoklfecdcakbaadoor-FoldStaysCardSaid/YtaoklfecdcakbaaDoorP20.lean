/- A part of the proof: what the functions of the program answer, as plain lists and numbers. -/
import Derived.Test.YtaoklfecdcakbaaDoorP19
namespace Go.Pm
open Go.Proofs
set_option linter.unusedVariables false
set_option linter.unusedSimpArgs false
theorem deep_mono (t : Tre) : ∀ {m n : Int}, m ≤ n → deepF t m = false → deepF t n = false := by
  induction t using Tre.ind with
  | h t ih =>
    intro m n hmn h
    rw [deepF_eq, Bool.or_eq_false_iff] at h ⊢
    refine ⟨?_, ?_⟩
    · have := h.1
      rw [Bool.and_eq_false_iff] at this ⊢
      rcases this with h1 | h1
      · exact .inl h1
      · right; simp only [decide_eq_false_iff_not] at h1 ⊢; omega
    · have h2 := h.2
      rw [List.any_eq_false] at h2 ⊢
      intro k hk
      have := h2 k hk
      simp only [Bool.not_eq_true] at this ⊢
      exact ih k hk (m := m - 1) (by omega) this
structure Gd (w : Int) (t : Tre) : Prop where
  ok : t.ok
  formed : formedF t = true
  deep : deepF t 64 = false
  told : (toldF w t).isSome = true
def dg (w : Int) (t : Tre) : List UInt8 := (toldF w t).getD []
theorem Gd.dgs {w : Int} {t : Tre} (h : Gd w t) : toldF w t = some (dg w t) := by
  have := h.told
  unfold dg
  cases hx : toldF w t with
  | none => rw [hx] at this; cases this
  | some d => rfl
theorem Gd.len {w : Int} {t : Tre} (h : Gd w t) (hw : wOk w = true) : ((dg w t).length : Int) = w := told_len hw t h.formed h.dgs
end Go.Pm
