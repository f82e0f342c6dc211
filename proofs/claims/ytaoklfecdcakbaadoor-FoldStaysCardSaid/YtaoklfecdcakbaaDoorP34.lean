/- A part of the proof: what the functions of the program answer, as plain lists and numbers. -/
import Derived.Test.YtaoklfecdcakbaaDoorP26
namespace Go.Pm
open Go.Proofs
set_option linter.unusedVariables false
set_option linter.unusedSimpArgs false
theorem agT51 : agT Tryd.prog 87 = true := by unfold agT; rw [Tryd.underlying87]
theorem ty_pr {B f : Nat} {cs : List AV} (h : tyC Tryd.prog B f 87 cs) : ∃ p : Pr, mkE (agT Tryd.prog 87) cs = p.av := by
  obtain ⟨f', css, rfl, h2⟩ := ty_struct Tryd.underlying87 h
  obtain ⟨c1, _, rfl, ⟨k1, _⟩, h2⟩ := forall2_1 h2
  obtain ⟨c2, _, rfl, ⟨k2, _⟩, h2⟩ := forall2_1 h2
  obtain rfl := forall2_0 h2
  obtain ⟨x, rfl, _⟩ := ty_bytesB k1
  obtain ⟨y, rfl, _⟩ := ty_bytesB k2
  exact ⟨⟨x, y⟩, by rw [agT51]; rfl⟩
theorem ty_prs {B f : Nat} {cs : List AV} {a : AV} (e : a = mkE (agT Tryd.prog 45) cs) (h : tyC Tryd.prog B f 45 cs) : ∃ l : List Pr, a = prsA l ∧ l.length * Tryd.prog.bytesOf 87 ≤ B := by
  obtain ⟨l, rfl, hl⟩ := ty_slice (g := Pr.av) Tryd.underlying45 h fun f cs h => ty_pr h
  exact ⟨l, by rw [e, agT_f Tryd.underlying45 rfl]; rfl, hl⟩
theorem prs_len {n : Nat} (h : n * Tryd.prog.bytesOf 87 ≤ reachBytes) : n ≤ 2^50 := by
  have e : Tryd.prog.bytesOf 87 = 48 := by kernel_rfl
  have r : reachBytes = 140737488351232 := rfl
  rw [e, r] at h
  omega
end Go.Pm
