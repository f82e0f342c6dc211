/- A part of the proof: what the functions of the program answer, as plain lists and numbers. -/
import Derived.Test.YtahipmiaknbkoaaP37
namespace Go.Pm
set_option linter.unusedVariables false
set_option linter.unusedSimpArgs false
section
variable {d : Dk} {ls : List (List UInt8)} {f : Fil} {n : Int}
end
theorem getL_del_ne {α β : Type} [DecidableEq α] {k k' : α} (h : k' ≠ k) : ∀ es : List (α × β), getL k' (delL k es) = getL k' es
  | [] => rfl
  | p :: es => by
    unfold delL
    by_cases e : k = p.1
    · rw [if_pos e]
      conv => rhs; unfold getL
      rw [if_neg (by rw [← e]; exact h)]
    · rw [if_neg e]
      unfold getL
      rw [getL_del_ne h es]
theorem log_of {d : Dk} {f : Fil} (hoff : d.off = false) (hg : getL nLog d.fs = some f) : logF d = f.b := by
  obtain ⟨h1, h2⟩ := there0 hoff hg
  unfold logF readF
  rw [if_pos h1, h2]
/-- a log of whole frames -/
theorem open_whole {d : Dk} {f : Fil} {a : List (List UInt8)} (h : Free 1 d) (hg : getL nLog d.fs = some f) (hb : f.b = framesF a) (ha : ∀ r ∈ a, r.length ≤ 2097152) : (openF d).1 = 0 ∧ (openF d).2.1 = a := by
  have key : ∀ {c : Dk}, c.off = false → getL nLog c.fs = some f → (openX c).1 = 0 ∧ (openX c).2.1 = a := fun {c} h1 h2 => by
    have hl := log_of h1 h2
    unfold openX scanD
    rw [hl, hb, scan_all a ha, if_neg (by simp)]
    exact ⟨rfl, rfl⟩
  unfold openF
  by_cases hn : (getL nNew d.fs).isSome = true
  · obtain ⟨g, hg'⟩ := Option.isSome_iff_exists.1 hn
    obtain ⟨r1, r2, r3, r4⟩ := remove_free (n := 0) h (by omega) hg'
    have hc : cleanF d = removeF d nNew := by unfold cleanF; rw [if_pos hn]
    rw [hc, if_pos r2]
    exact key r3.1 (by rw [r4, getL_del_ne log_ne]; exact hg)
  · have hc : cleanF d = (0, d) := by unfold cleanF; rw [if_neg hn]
    rw [hc, if_pos rfl]
    exact key h.1 hg
end Go.Pm
