/- A part of the proof: what the functions of the program answer, as plain lists and numbers. -/
import Derived.Test.YtahipmiaknbkoaaP24
namespace Go.Pm
open Go.Proofs
set_option linter.unusedVariables false
set_option linter.unusedSimpArgs false
/-- the end of a function whose value is a row of its own -/
theorem end_own {n g N : Nat} {H X : List AObj} {E : List Nat} {l : List UInt8} (hn : n = H.length) (hg : (H ++ X)[g]? = some (.row 1 (l.map u8))) (hN : N = l.length) (hgn : n ≤ g) (hE : E.all (fun e => decide (n ≤ e)) = true) : endB false false n (.slc g 0 N N) (H ++ X) E = some (bys l, H, []) := by
  subst hn hN
  unfold endB endA
  rw [if_neg (by decide), frz_row (z := 1) hg (List.length_map _).symm (goodL_u8 l)]
  simp only [Option.map_some, Option.bind_some, kills, killAll, Bool.false_eq_true, if_false]
  rw [show (AV.lst (l.map u8)).bel H.length = true from bel_good _ _ (good_bys l), if_pos ⟨rfl, hE⟩]
  have hgl : H.length ≤ g := hgn
  rw [List.set_append_right _ _ hgl, List.take_left]
  rfl
abbrev KR := AV → List AObj → List Nat → Option R3
end Go.Pm
