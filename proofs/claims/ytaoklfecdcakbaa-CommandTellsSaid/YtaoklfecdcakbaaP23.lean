/- A part of the proof: what the functions of the program answer, as plain lists and numbers. -/
import Derived.Lib.LaidTab
import Derived.Stop.LaidErr
import Derived.Test.YtaoklfecdcakbaaP21
import Derived.Test.YtaoklfecdcakbaaP22
namespace Go.Pm
open Go.Proofs Go.RowKit Go.WideShapes Go.ChangeShapes
set_option linter.unusedVariables false
set_option maxRecDepth 100000
set_option linter.unusedSimpArgs false
theorem addI_ok {g : FuncId} {F0 : List AV → List AObj → Option R3} {I : FuncId → Option (List AV → List AObj → Option R3)} {P : Program} {G : Nat → Option (List AV)} (h0 : ∀ a H r, F0 a H = some r → SpecR P G g a H r) (h1 : ∀ f F a H r, I f = some F → F a H = some r → SpecR P G f a H r) :
    ∀ f F a H r, addI g F0 I f = some F → F a H = some r → SpecR P G f a H r := fun f F a H r hF hr => by
  unfold addI at hF
  split at hF
  · rename_i hf; subst hf; injection hF with hF; subst hF; exact h0 a H r hr
  · exact h1 f F a H r hF hr
theorem C_I : ∀ f F a H r, C.I f = some F → F a H = some r → SpecR C.P C.G f a H r := addI_ok (P := C.P) (G := C.G) (fun a H r h => compare_ok a H r h) (clone_ok fun f => rfl)
theorem choose_map {α β : Type} {f : β → AV} {g : α → AV} : ∀ {l : List α}, (∀ a ∈ l, ∃ b, g a = f b) → ∃ l' : List β, l'.length = l.length ∧ l.map g = l'.map f
  | [], _ => ⟨[], rfl, rfl⟩
  | a :: l, h => by
    obtain ⟨b, hb⟩ := h a (by simp)
    obtain ⟨l', h1, h2⟩ := choose_map (l := l) fun x hx => h x (List.mem_cons_of_mem _ hx)
    exact ⟨b :: l', by simp [h1], by simp [hb, h2]⟩
theorem ty_int {B : Nat} {P : Program} {k : IntKind} {f : Nat} {cs : List AV} {t : TypeId} (ht : P.underlying t = some (.int k)) (h : tyC P B f t cs) : ∃ n, cs = [.int k n] ∧ k.min ≤ n ∧ n ≤ k.max := by
  cases f with
  | zero => simp [tyC] at h
  | succ f =>
    simp only [tyC, ht] at h
    obtain ⟨n, h1, h2, h3⟩ := h
    exact ⟨n, h1, h2, h3⟩
theorem ty_u8 {B : Nat} {P : Program} {f : Nat} {cs : List AV} {t : TypeId} (ht : P.underlying t = some (.int .u8)) (h : tyC P B f t cs) : ∃ b : UInt8, cs = [u8 b] := by
  obtain ⟨n, rfl, h1, h2⟩ := ty_int ht h
  refine ⟨UInt8.ofNat n.toNat, ?_⟩
  have a1 : IntKind.u8.min = 0 := rfl
  have a2 : IntKind.u8.max = 255 := rfl
  rw [a1] at h1; rw [a2] at h2
  rw [u8_nat]
  congr 2
  omega
/-- a slice of what is known -/
theorem ty_slice {B : Nat} {P : Program} {α : Type} {g : α → AV} {f : Nat} {cs : List AV} {t e : TypeId} (ht : P.underlying t = some (.slice e)) (h : tyC P B f t cs) (hel : ∀ f cs, tyC P B f e cs → ∃ a, mkE (agT P e) cs = g a) :
    ∃ l : List α, cs = [.lst (l.map g)] ∧ l.length * P.bytesOf e ≤ B := by
  cases f with
  | zero => simp [tyC] at h
  | succ f =>
    simp only [tyC, ht] at h
    obtain ⟨ess, rfl, h1, h2⟩ := h
    obtain ⟨l, h3, h4⟩ := choose_map (f := g) (g := mkE (agT P e)) (l := ess) fun a ha => hel f a (h2 a ha).1
    exact ⟨l, by rw [h4], by rw [h3]; exact h1⟩
theorem ty_struct {B : Nat} {P : Program} {f : Nat} {cs : List AV} {t : TypeId} {fs : Array Field} (ht : P.underlying t = some (.struct fs)) (h : tyC P B f t cs) :
    ∃ (f' : Nat) (css : List (List AV)), cs = css.flatten ∧ forall2 (fun (g : Field) cs => tyC P B f' g.type cs ∧ cs.length = P.cellsOf g.type) fs.toList css := by
  cases f with
  | zero => simp [tyC] at h
  | succ f =>
    simp only [tyC, ht] at h
    obtain ⟨css, h1, h2⟩ := h
    exact ⟨f, css, h1, h2⟩
theorem agT_f {P : Program} {t : TypeId} {d : TypeDesc} (h : P.underlying t = some d) (hs : (match d with | .struct _ | .array _ _ => true | _ => false) = false) : agT P t = false := by
  unfold agT; rw [h]; cases d <;> simp_all
theorem forall2_1 {α β : Type} {p : α → β → Prop} {a : α} {xs : List α} {bs : List β} (h : forall2 p (a :: xs) bs) : ∃ b bs', bs = b :: bs' ∧ p a b ∧ forall2 p xs bs' := by
  cases bs with
  | nil => exact h.elim
  | cons b bs => exact ⟨b, bs, rfl, h.1, h.2⟩
theorem forall2_0 {α β : Type} {p : α → β → Prop} {bs : List β} (h : forall2 p [] bs) : bs = [] := by
  cases bs with
  | nil => rfl
  | cons b bs => exact h.elim

theorem ty_i64 {B : Nat} {f : Nat} {cs : List AV} (h : tyC Try.prog B f 3 cs) : ∃ n, cs = [.int .i64 n] := by
  obtain ⟨n, h1, _⟩ := ty_int Try.underlying3 h
  exact ⟨n, h1⟩
theorem ty_bytesB {B f : Nat} {cs : List AV} (h : tyC Try.prog B f 23 cs) : ∃ l : List UInt8, cs = [bys l] ∧ l.length ≤ B := by
  obtain ⟨l, h1, h2⟩ := ty_slice (g := u8) Try.underlying23 h fun f cs h => by
    obtain ⟨b, rfl⟩ := ty_u8 Try.underlying5 h
    exact ⟨b, by rw [agT_f Try.underlying5 rfl]; rfl⟩
  have : Try.prog.bytesOf 5 = 1 := by kernel_rfl
  rw [this] at h2
  exact ⟨l, h1, by omega⟩
end Go.Pm
