/- A part of the proof: what the functions of the program answer, as plain lists and numbers. -/
import Derived.Test.YtahipmiaknbkoaaP7
import Derived.Test.YtahipmiaknbkoaaP8
import Derived.Test.YtahipmiaknbkoaaP10
import Derived.Test.YtahipmiaknbkoaaP12
import Derived.Test.YtahipmiaknbkoaaP14
namespace Go.Pm
open Go.Proofs
set_option linter.unusedVariables false
set_option linter.unusedSimpArgs false
theorem C_I : ∀ f F a H r, C.I f = some F → F a H = some r → SpecR C.P C.G f a H r :=
  addI_ok roomF_ok (addI_ok sortF_ok (addI_ok isF_ok (clone_ok (C0 := C0) (fun f => rfl))))
theorem choose_map {α β : Type} {f : β → AV} {g : α → AV} : ∀ {l : List α}, (∀ a ∈ l, ∃ b, g a = f b) → ∃ l' : List β, l'.length = l.length ∧ l.map g = l'.map f
  | [], _ => ⟨[], rfl, rfl⟩
  | a :: l, h => by
    obtain ⟨b, hb⟩ := h a (by simp)
    obtain ⟨l', h1, h2⟩ := choose_map (l := l) fun x hx => h x (List.mem_cons_of_mem _ hx)
    exact ⟨b :: l', by simp [h1], by simp [hb, h2]⟩
theorem ty_int {B : Nat} {P : Program} {k : IntKind} {f : Nat} {cs : List AV} {t : TypeId} (ht : P.underlying t = some (.int k)) (h : tyC P B f t cs) : ∃ n, cs = [.int k n] ∧ k.min ≤ n ∧ n ≤ k.max := by
  cases f with
  | zero => simp [tyC] at h
  | succ f =>
    simp only [tyC, ht] at h
    obtain ⟨n, h1, h2, h3⟩ := h
    exact ⟨n, h1, h2, h3⟩
theorem ty_u8 {B : Nat} {P : Program} {f : Nat} {cs : List AV} {t : TypeId} (ht : P.underlying t = some (.int .u8)) (h : tyC P B f t cs) : ∃ b : UInt8, cs = [u8 b] := by
  obtain ⟨n, rfl, h1, h2⟩ := ty_int ht h
  refine ⟨UInt8.ofNat n.toNat, ?_⟩
  have a1 : IntKind.u8.min = 0 := rfl
  have a2 : IntKind.u8.max = 255 := rfl
  rw [a1] at h1; rw [a2] at h2
  rw [u8_nat]
  congr 2
  omega
theorem ty_slice {B : Nat} {P : Program} {α : Type} {g : α → AV} {f : Nat} {cs : List AV} {t e : TypeId} (ht : P.underlying t = some (.slice e)) (h : tyC P B f t cs) (hel : ∀ f cs, tyC P B f e cs → ∃ a, mkE (agT P e) cs = g a) :
    ∃ l : List α, cs = [.lst (l.map g)] ∧ l.length * P.bytesOf e ≤ B := by
  cases f with
  | zero => simp [tyC] at h
  | succ f =>
    simp only [tyC, ht] at h
    obtain ⟨ess, rfl, h1, h2⟩ := h
    obtain ⟨l, h3, h4⟩ := choose_map (f := g) (g := mkE (agT P e)) (l := ess) fun a ha => hel f a (h2 a ha).1
    exact ⟨l, by rw [h4], by rw [h3]; exact h1⟩
theorem agT_f {P : Program} {t : TypeId} {d : TypeDesc} (h : P.underlying t = some d) (hd : (match d with | .struct _ => true | .array _ _ => true | _ => false) = false) : agT P t = false := by
  unfold agT; rw [h]; cases d <;> simp at hd ⊢
variable {B : Nat} {f : Nat} {cs : List AV}
theorem ty_bytes (h : tyC Try.prog B f 22 cs) : ∃ l : List UInt8, cs = [bys l] ∧ l.length ≤ B := by
  obtain ⟨l, h1, h2⟩ := ty_slice (g := u8) Try.underlying22 h fun f cs h => by
    obtain ⟨b, rfl⟩ := ty_u8 Try.underlying5 h
    exact ⟨b, by rw [agT_f Try.underlying5 rfl]; rfl⟩
  rw [show Try.prog.bytesOf 5 = 1 from by kernel_rfl] at h2
  exact ⟨l, h1, by omega⟩
theorem ty_bl (h : tyC Try.prog B f 33 cs) : ∃ l : List (List UInt8), cs = [.lst (l.map bys)] := by
  obtain ⟨l, h1, _⟩ := ty_slice (g := bys) Try.underlying33 h fun f cs h => by
    obtain ⟨b, rfl, _⟩ := ty_bytes h
    exact ⟨b, by rw [agT_f Try.underlying22 rfl]; rfl⟩
  exact ⟨l, h1⟩
theorem ty_ints (h : tyC Try.prog B f 34 cs) : ∃ l : List Int, cs = [ints l] ∧ l.length * 8 ≤ B := by
  obtain ⟨l, h1, h2⟩ := ty_slice (g := i64) Try.underlying34 h fun f cs h => by
    obtain ⟨n, rfl, _⟩ := ty_int Try.underlying3 h
    exact ⟨n, by rw [agT_f Try.underlying3 rfl]; rfl⟩
  rw [show Try.prog.bytesOf 3 = 8 from by kernel_rfl] at h2
  exact ⟨l, h1, h2⟩
theorem ty_n {a : AV} (e : a = mkE (agT Try.prog 3) cs) (h : tyC Try.prog B f 3 cs) : ∃ n, a = .int .i64 n ∧ -2^63 ≤ n ∧ n < 2^63 := by
  obtain ⟨n, rfl, h1, h2⟩ := ty_int Try.underlying3 h
  have a1 : IntKind.i64.min = -2^63 := rfl
  have a2 : IntKind.i64.max = 2^63 - 1 := rfl
  rw [a1] at h1; rw [a2] at h2
  exact ⟨n, by rw [e, agT_f Try.underlying3 rfl]; rfl, h1, by omega⟩
theorem ty_b {a : AV} (e : a = mkE (agT Try.prog 22) cs) (h : tyC Try.prog B f 22 cs) : ∃ l, a = bys l := by
  obtain ⟨l, rfl, _⟩ := ty_bytes h
  exact ⟨l, by rw [e, agT_f Try.underlying22 rfl]; rfl⟩
theorem ty_l {a : AV} (e : a = mkE (agT Try.prog 33) cs) (h : tyC Try.prog B f 33 cs) : ∃ l : List (List UInt8), a = .lst (l.map bys) := by
  obtain ⟨l, rfl⟩ := ty_bl h
  exact ⟨l, by rw [e, agT_f Try.underlying33 rfl]; rfl⟩
theorem ty_k {a : AV} (e : a = mkE (agT Try.prog 34) cs) (h : tyC Try.prog B f 34 cs) : ∃ l : List Int, a = ints l ∧ l.length * 8 ≤ B := by
  obtain ⟨l, rfl, h2⟩ := ty_ints h
  exact ⟨l, by rw [e, agT_f Try.underlying34 rfl]; rfl, h2⟩
theorem reach60 {n : Nat} (h : n * 8 ≤ reachBytes) : n < 2^60 := by
  unfold reachBytes at h; omega
section
variable {B0 B1 B2 : Nat} {a0 a1 a2 a3 : AV} {u0 u1 u2 u3 : Nat} {l0 l1 l2 l3 : List AV}
theorem diskKeeps_law (e0 : a0 = mkE (agT Try.prog 22) l0) (y0 : tyC Try.prog B0 u0 22 l0) (e1 : a1 = mkE (agT Try.prog 33) l1) (y1 : tyC Try.prog B1 u1 33 l1) (e2 : a2 = mkE (agT Try.prog 3) l2) (y2 : tyC Try.prog B2 u2 3 l2) (e3 : a3 = mkE (agT Try.prog 34) l3) (y3 : tyC Try.prog reachBytes u3 34 l3) :
    EV C n_law15_DiskKeeps [a0, a1, a2, a3] [] = some (.bool true, [], []) := by
  obtain ⟨a, rfl⟩ := ty_b e0 y0
  obtain ⟨b, rfl⟩ := ty_l e1 y1
  obtain ⟨n, rfl, h1, h2⟩ := ty_n e2 y2
  obtain ⟨k, rfl, hk⟩ := ty_k e3 y3
  exact DiskKeeps_ok a b n k (reach60 hk)
end
end Go.Pm
