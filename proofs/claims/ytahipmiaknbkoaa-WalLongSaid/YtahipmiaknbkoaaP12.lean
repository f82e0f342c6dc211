/- A part of the proof: what the functions of the program answer, as plain lists and numbers. -/
import Derived.Test.YtahipmiaknbkoaaP7
import Derived.Test.YtahipmiaknbkoaaP8
import Derived.Test.YtahipmiaknbkoaaP9
import Derived.Test.YtahipmiaknbkoaaP10
import Derived.Test.YtahipmiaknbkoaaP11
namespace Go.Pm
open Go.Proofs
set_option linter.unusedVariables false
set_option linter.unusedSimpArgs false
theorem C_I : ∀ f F a H r, C.I f = some F → F a H = some r → SpecR C.P C.G f a H r :=
  addI_ok roomF_ok (addI_ok sortF_ok (addI_ok isF_ok (clone_ok (C0 := C0) (fun f => rfl))))
theorem ty_int {B : Nat} {P : Program} {k : IntKind} {f : Nat} {cs : List AV} {t : TypeId} (ht : P.underlying t = some (.int k)) (h : tyC P B f t cs) : ∃ n, cs = [.int k n] ∧ k.min ≤ n ∧ n ≤ k.max := by
  cases f with
  | zero => simp [tyC] at h
  | succ f =>
    simp only [tyC, ht] at h
    obtain ⟨n, h1, h2, h3⟩ := h
    exact ⟨n, h1, h2, h3⟩
theorem agT_f {P : Program} {t : TypeId} {d : TypeDesc} (h : P.underlying t = some d) (hd : (match d with | .struct _ => true | .array _ _ => true | _ => false) = false) : agT P t = false := by
  unfold agT; rw [h]; cases d <;> simp at hd ⊢
variable {B : Nat} {f : Nat} {cs : List AV}
theorem ty_n {a : AV} (e : a = mkE (agT Try.prog 3) cs) (h : tyC Try.prog B f 3 cs) : ∃ n, a = .int .i64 n ∧ -2^63 ≤ n ∧ n < 2^63 := by
  obtain ⟨n, rfl, h1, h2⟩ := ty_int Try.underlying3 h
  have a1 : IntKind.i64.min = -2^63 := rfl
  have a2 : IntKind.i64.max = 2^63 - 1 := rfl
  rw [a1] at h1; rw [a2] at h2
  exact ⟨n, by rw [e, agT_f Try.underlying3 rfl]; rfl, h1, by omega⟩
section
variable {B0 B1 B2 : Nat} {a0 a1 a2 a3 : AV} {u0 u1 u2 u3 : Nat} {l0 l1 l2 l3 : List AV}
theorem walLong_law (e0 : a0 = mkE (agT Try.prog 3) l0) (y0 : tyC Try.prog B0 u0 3 l0) : EV C n_law16_WalLong [a0] [] = some (.bool true, [], []) := by
  obtain ⟨n, rfl, _⟩ := ty_n e0 y0
  exact WalLong_ok n
end
end Go.Pm
