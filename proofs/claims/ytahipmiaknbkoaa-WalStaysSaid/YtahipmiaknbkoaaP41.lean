/- A part of the proof: what the functions of the program answer, as plain lists and numbers. -/
import Derived.Test.YtahipmiaknbkoaaP40
namespace Go.Pm
open Go.Proofs
set_option linter.unusedVariables false
set_option linter.unusedSimpArgs false
theorem Dt.st {H : List AObj} {L D m : Nat} {d : Dk} {all : List UInt8} (h : Dt H L D m d all) (i : Nat) (v : UInt8) : Dt (H.set m (.row 1 ((all.set i v).map u8))) L D m d (all.set i v) := by
  have h1 := h.n1; have h2 := h.n2
  have hm : m < H.length := (List.getElem?_eq_some_iff.1 h.r).1
  refine ⟨⟨?_, ?_, h.a.lt⟩, ?_, h1, h2⟩
  · rw [List.getElem?_set_ne h1]; exact h.a.m
  · rw [List.getElem?_set_ne h2]; exact h.a.r
  · rw [List.getElem?_set_self hm]
end Go.Pm
