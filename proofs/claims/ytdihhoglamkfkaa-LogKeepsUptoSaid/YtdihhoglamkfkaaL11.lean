/- A part of the proof: what the functions of the program answer, as plain lists and numbers. -/
import Derived.Test.YtdihhoglamkfkaaL10
namespace Go.Pm
open Go.Proofs
set_option linter.unusedVariables false
set_option linter.unusedSimpArgs false
theorem C_I : ∀ f F a H r, C.I f = some F → F a H = some r → SpecR C.P C.G f a H r := clone_ok (C0 := C0) (fun f => rfl)
/-! ### what the arguments are -/
theorem choose_map {α β : Type} {f : β → AV} {g : α → AV} : ∀ {l : List α}, (∀ a ∈ l, ∃ b, g a = f b) → ∃ l' : List β, l'.length = l.length ∧ l.map g = l'.map f
  | [], _ => ⟨[], rfl, rfl⟩
  | a :: l, h => by
    obtain ⟨b, hb⟩ := h a (by simp)
    obtain ⟨l', h1, h2⟩ := choose_map (l := l) fun x hx => h x (List.mem_cons_of_mem _ hx)
    exact ⟨b :: l', by simp [h1], by simp [hb, h2]⟩
theorem ty_int {B : Nat} {P : Program} {k : IntKind} {f : Nat} {cs : List AV} {t : TypeId} (ht : P.underlying t = some (.int k)) (h : tyC P B f t cs) : ∃ n, cs = [.int k n] ∧ k.min ≤ n ∧ n ≤ k.max := by
  cases f with
  | zero => simp [tyC] at h
  | succ f =>
    simp only [tyC, ht] at h
    obtain ⟨n, h1, h2, h3⟩ := h
    exact ⟨n, h1, h2, h3⟩
theorem ty_u8 {B : Nat} {P : Program} {f : Nat} {cs : List AV} {t : TypeId} (ht : P.underlying t = some (.int .u8)) (h : tyC P B f t cs) : ∃ b : UInt8, cs = [u8 b] := by
  obtain ⟨n, rfl, h1, h2⟩ := ty_int ht h
  refine ⟨UInt8.ofNat n.toNat, ?_⟩
  have a1 : IntKind.u8.min = 0 := rfl
  have a2 : IntKind.u8.max = 255 := rfl
  rw [a1] at h1; rw [a2] at h2
  rw [u8_nat]
  congr 2
  omega
/-- a slice of what is known -/
theorem ty_slice {B : Nat} {P : Program} {α : Type} {g : α → AV} {f : Nat} {cs : List AV} {t e : TypeId} (ht : P.underlying t = some (.slice e)) (h : tyC P B f t cs) (hel : ∀ f cs, tyC P B f e cs → ∃ a, mkE (agT P e) cs = g a) :
    ∃ l : List α, cs = [.lst (l.map g)] ∧ l.length * P.bytesOf e ≤ B := by
  cases f with
  | zero => simp [tyC] at h
  | succ f =>
    simp only [tyC, ht] at h
    obtain ⟨ess, rfl, h1, h2⟩ := h
    obtain ⟨l, h3, h4⟩ := choose_map (f := g) (g := mkE (agT P e)) (l := ess) fun a ha => hel f a (h2 a ha).1
    exact ⟨l, by rw [h4], by rw [h3]; exact h1⟩
theorem ty_struct {B : Nat} {P : Program} {f : Nat} {cs : List AV} {t : TypeId} {fs : Array Field} (ht : P.underlying t = some (.struct fs)) (h : tyC P B f t cs) :
    ∃ (f' : Nat) (css : List (List AV)), cs = css.flatten ∧ forall2 (fun (g : Field) cs => tyC P B f' g.type cs ∧ cs.length = P.cellsOf g.type) fs.toList css := by
  cases f with
  | zero => simp [tyC] at h
  | succ f =>
    simp only [tyC, ht] at h
    obtain ⟨css, h1, h2⟩ := h
    exact ⟨f, css, h1, h2⟩
theorem agT_f {P : Program} {t : TypeId} {d : TypeDesc} (h : P.underlying t = some d) (hs : (match d with | .struct _ | .array _ _ => true | _ => false) = false) : agT P t = false := by
  unfold agT; rw [h]; cases d <;> simp_all
theorem ty_bytes {B : Nat} {f : Nat} {cs : List AV} (h : tyC Try.prog B f 22 cs) : ∃ l : List UInt8, cs = [bys l] := by
  obtain ⟨l, h1, _⟩ := ty_slice (g := u8) Try.underlying22 h fun f cs h => by
    obtain ⟨b, rfl⟩ := ty_u8 Try.underlying5 h
    exact ⟨b, by rw [agT_f Try.underlying5 rfl]; rfl⟩
  exact ⟨l, h1⟩
theorem ty_i64 {B : Nat} {f : Nat} {cs : List AV} (h : tyC Try.prog B f 3 cs) : ∃ n, cs = [.int .i64 n] := by
  obtain ⟨n, h1, _⟩ := ty_int Try.underlying3 h
  exact ⟨n, h1⟩
theorem forall2_1 {α β : Type} {p : α → β → Prop} {a : α} {xs : List α} {bs : List β} (h : forall2 p (a :: xs) bs) : ∃ b bs', bs = b :: bs' ∧ p a b ∧ forall2 p xs bs' := by
  cases bs with
  | nil => exact h.elim
  | cons b bs => exact ⟨b, bs, rfl, h.1, h.2⟩
theorem forall2_0 {α β : Type} {p : α → β → Prop} {bs : List β} (h : forall2 p [] bs) : bs = [] := by
  cases bs with
  | nil => rfl
  | cons b bs => exact h.elim
theorem ty_ints {B : Nat} {f : Nat} {cs : List AV} (h : tyC Try.prog B f 36 cs) : ∃ l : List Int, cs = [ints l] := by
  obtain ⟨l, h1, _⟩ := ty_slice (g := i64) Try.underlying36 h fun f cs h => by
    obtain ⟨n, rfl⟩ := ty_i64 h
    exact ⟨n, by rw [agT_f Try.underlying3 rfl]; rfl⟩
  exact ⟨l, h1⟩
theorem ty_ent {B : Nat} {f : Nat} {cs : List AV} (h : tyC Try.prog B f 57 cs) : ∃ e : Ent, cs = [.int .i64 e.term, .int .i64 e.kind, bys e.data] := by
  obtain ⟨f', css, rfl, h2⟩ := ty_struct Try.underlying57 h
  obtain ⟨c1, _, rfl, ⟨k1, _⟩, h2⟩ := forall2_1 h2
  obtain ⟨c2, _, rfl, ⟨k2, _⟩, h2⟩ := forall2_1 h2
  obtain ⟨c3, _, rfl, ⟨k3, _⟩, h2⟩ := forall2_1 h2
  obtain rfl := forall2_0 h2
  obtain ⟨t, rfl⟩ := ty_i64 k1
  obtain ⟨k, rfl⟩ := ty_i64 k2
  obtain ⟨d, rfl⟩ := ty_bytes k3
  exact ⟨⟨t, k, d⟩, rfl⟩
theorem ty_ents {B : Nat} {f : Nat} {cs : List AV} (h : tyC Try.prog B f 39 cs) : ∃ l : List Ent, cs = [ents l] := by
  obtain ⟨l, h1, _⟩ := ty_slice (g := Ent.av) Try.underlying39 h fun f cs h => by
    obtain ⟨e, rfl⟩ := ty_ent h
    have ha : agT Try.prog 57 = true := by unfold agT; rw [Try.underlying57]
    exact ⟨e, by rw [ha]; rfl⟩
  exact ⟨l, h1⟩
theorem ty_base {B : Nat} {f : Nat} {cs : List AV} (h : tyC Try.prog B f 38 cs) : ∃ (i t : Int) (l : List Int), cs = [.int .i64 i, .int .i64 t, ints l] := by
  obtain ⟨f', css, rfl, h2⟩ := ty_struct Try.underlying38 h
  obtain ⟨c1, _, rfl, ⟨k1, _⟩, h2⟩ := forall2_1 h2
  obtain ⟨c2, _, rfl, ⟨k2, _⟩, h2⟩ := forall2_1 h2
  obtain ⟨c3, _, rfl, ⟨k3, _⟩, h2⟩ := forall2_1 h2
  obtain rfl := forall2_0 h2
  obtain ⟨t, rfl⟩ := ty_i64 k1
  obtain ⟨k, rfl⟩ := ty_i64 k2
  obtain ⟨d, rfl⟩ := ty_ints k3
  exact ⟨t, k, d, rfl⟩
theorem ty_lg {B : Nat} {f : Nat} {cs : List AV} {a : AV} (e : a = mkE (agT Try.prog 41) cs) (h : tyC Try.prog B f 41 cs) : ∃ g : Lg, a = g.av := by
  obtain ⟨f', css, rfl, h2⟩ := ty_struct Try.underlying41 h
  obtain ⟨c1, _, rfl, ⟨k1, _⟩, h2⟩ := forall2_1 h2
  obtain ⟨c2, _, rfl, ⟨k2, _⟩, h2⟩ := forall2_1 h2
  obtain rfl := forall2_0 h2
  obtain ⟨i, t, l, rfl⟩ := ty_base k1
  obtain ⟨es, rfl⟩ := ty_ents k2
  have ha : agT Try.prog 41 = true := by unfold agT; rw [Try.underlying41]
  exact ⟨⟨i, t, l, es⟩, by rw [e, ha]; rfl⟩
theorem ty_i64' {B : Nat} {f : Nat} {cs : List AV} {a : AV} (e : a = mkE (agT Try.prog 3) cs) (h : tyC Try.prog B f 3 cs) : ∃ n, a = .int .i64 n := by
  obtain ⟨n, rfl⟩ := ty_i64 h
  exact ⟨n, by rw [e, agT_f Try.underlying3 rfl]; rfl⟩
theorem ty_ents' {B : Nat} {f : Nat} {cs : List AV} {a : AV} (e : a = mkE (agT Try.prog 39) cs) (h : tyC Try.prog B f 39 cs) : ∃ l, a = ents l := by
  obtain ⟨l, rfl⟩ := ty_ents h
  exact ⟨l, by rw [e, agT_f Try.underlying39 rfl]; rfl⟩
theorem logTells_law {B : Nat} {a b c : AV} {f f1 f2 : Nat} {l l1 l2 : List AV} (e : a = mkE (agT Try.prog 41) l) (h : tyC Try.prog B f 41 l) (e1 : b = mkE (agT Try.prog 3) l1) (h1 : tyC Try.prog B f1 3 l1) (e2 : c = mkE (agT Try.prog 3) l2) (h2 : tyC Try.prog B f2 3 l2) :
    EV C n_law18_LogTells [a, b, c] [] = some (.bool true, [], []) := by
  obtain ⟨g, rfl⟩ := ty_lg e h
  obtain ⟨i, rfl⟩ := ty_i64' e1 h1
  obtain ⟨n, rfl⟩ := ty_i64' e2 h2
  exact logTells_ok g i n
theorem logCompacts_law {B : Nat} {a b : AV} {f f1 : Nat} {l l1 : List AV} (e : a = mkE (agT Try.prog 41) l) (h : tyC Try.prog B f 41 l) (e1 : b = mkE (agT Try.prog 3) l1) (h1 : tyC Try.prog B f1 3 l1) :
    EV C n_law18_LogCompacts [a, b] [] = some (.bool true, [], []) := by
  obtain ⟨g, rfl⟩ := ty_lg e h
  obtain ⟨i, rfl⟩ := ty_i64' e1 h1
  exact logCompacts_ok g i
end Go.Pm
