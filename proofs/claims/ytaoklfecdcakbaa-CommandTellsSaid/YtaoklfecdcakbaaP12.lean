/- A part of the proof: what the functions of the program answer, as plain lists and numbers. -/
import Derived.Test.YtaoklfecdcakbaaP11
namespace Go.Pm
open Go.Proofs
set_option linter.unusedVariables false
set_option linter.unusedSimpArgs false
theorem ix_w {H : List AObj} {l n i : Nat} {k : IntKind} {es : List AV} (h : H[l]? = some (.row 1 es)) (hn : es.length = n) (hi : i < n) (j : Int) (hj : j = i) : ixA 1 (.slc l 0 n n) (.int k j) H = some (.ptr l n i 0) := by
  subst hj
  simp only [ixA, indexA, h]
  rw [if_pos ⟨by omega, by omega, hn, trivial⟩]
  simp
theorem sto_w {β : Type} {H : List AObj} {l n i : Nat} {es : List AV} {e v : AV} {K : List AObj → List Nat → Option β} (h : H[l]? = some (.row 1 es)) (hn : es.length = n) (hi : es[i]? = some e) (he : ∀ cs, e ≠ .agg cs) (hv : v.cells = [v]) (h1 : v.one = true) (hg : v.good = true) :
    stoK 1 (.ptr l n i 0) v H K = K (H.set l (.row 1 (es.set i v))) [] := by
  have h2 : storeA 1 (.ptr l n i 0) v H = some (H.set l (.row 1 (es.set i v)), []) := by
    unfold storeA
    simp only [h, hi, hv]
    rw [if_pos ⟨hn, rfl, by simp [h1]⟩]
    have h3 : setC e 0 [v] = some v := by
      unfold setC
      split
      · exact absurd rfl (he _)
      · rfl
    simp only [Option.bind_some, h3, Option.map_some]
    rw [escs_good (by simp [hg])]
  unfold stoK; rw [h2]; rfl
theorem getD_some {ws : List UInt32} {i : Nat} (h : i < ws.length) : ws[i]? = some (ws.getD i 0) := by
  simp [List.getElem?_eq_getElem h, List.getD_eq_getElem?_getD]
end Go.Pm
