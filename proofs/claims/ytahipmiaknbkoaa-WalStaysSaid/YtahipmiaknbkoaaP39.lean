/- A part of the proof: what the functions of the program answer, as plain lists and numbers. -/
import Derived.Test.YtahipmiaknbkoaaP38
namespace Go.Pm
open Go.Proofs
set_option linter.unusedVariables false
set_option linter.unusedSimpArgs false
structure Dt (H : List AObj) (L D m : Nat) (d : Dk) (all : List UInt8) : Prop where
  a : At H L D d
  r : H[m]? = some (.row 1 (all.map u8))
  n1 : m ≠ L
  n2 : m ≠ D
theorem Dt.pt {H : List AObj} {L D m : Nat} {d0 : Dk} {all : List UInt8} (h : Dt H L D m d0 all) (d : Dk) : Dt (pt H L D d) L D m d all := by
  have h1 := h.n1; have h2 := h.n2
  refine ⟨h.a.pt d, ?_, h.n1, h.n2⟩
  unfold Go.Pm.pt
  rw [List.getElem?_set_ne (by omega), List.getElem?_set_ne (by omega)]
  exact h.r
theorem Dt.app {H : List AObj} {L D m : Nat} {d : Dk} {all : List UInt8} (h : Dt H L D m d all) (l : List UInt8) (hs : all.length + l.length ≤ 2^46) :
    ∃ H', Dt H' L D m d (all ++ l) ∧ ∀ K : KK, appK 1 1 (.slc m 0 all.length all.length) (bys l) H K = K (.slc m 0 (all ++ l).length (all ++ l).length) H' [] := by
  have h1 := h.n1; have h2 := h.n2
  have hm : m < H.length := (List.getElem?_eq_some_iff.1 h.r).1
  refine ⟨H.set m (.row 1 ((all ++ l).map u8)), ⟨⟨?_, ?_, h.a.lt⟩, ?_, h1, h2⟩, fun K => ?_⟩
  · rw [List.getElem?_set_ne h1]; exact h.a.m
  · rw [List.getElem?_set_ne h2]; exact h.a.r
  · rw [List.getElem?_set_self hm]
  · rw [appK_row (es := all.map u8) (ys := l.map u8) rfl h.r (List.length_map _).symm (lz_u8 l) (by decide) (by decide) (by decide) (by rw [List.length_map]; omega), esc_good (goodL_u8 l), List.length_map, List.length_append, List.map_append]
end Go.Pm
