/- A part of the proof: what the functions of the program answer, as plain lists and numbers. -/
import Derived.Lib.LaidTab
import Derived.Stop.LaidErr
import Derived.Test.YtaoklfecdcakbaaDoorP23
import Derived.Test.YtaoklfecdcakbaaDoorP24
namespace Go.Pm
open Go.Proofs Go.RowKit Go.WideShapes Go.ChangeShapes
set_option linter.unusedVariables false
set_option maxRecDepth 100000
set_option linter.unusedSimpArgs false
theorem addI_ok {g : FuncId} {F0 : List AV → List AObj → Option R3} {I : FuncId → Option (List AV → List AObj → Option R3)} {P : Program} {G : Nat → Option (List AV)} (h0 : ∀ a H r, F0 a H = some r → SpecR P G g a H r) (h1 : ∀ f F a H r, I f = some F → F a H = some r → SpecR P G f a H r) :
    ∀ f F a H r, addI g F0 I f = some F → F a H = some r → SpecR P G f a H r := fun f F a H r hF hr => by
  unfold addI at hF
  split at hF
  · rename_i hf; subst hf; injection hF with hF; subst hF; exact h0 a H r hr
  · exact h1 f F a H r hF hr
theorem C_I : ∀ f F a H r, C.I f = some F → F a H = some r → SpecR C.P C.G f a H r := addI_ok (P := C.P) (G := C.G) (fun a H r h => compare_ok a H r h) (clone_ok fun f => rfl)
theorem choose_map {α β : Type} {f : β → AV} {g : α → AV} : ∀ {l : List α}, (∀ a ∈ l, ∃ b, g a = f b) → ∃ l' : List β, l'.length = l.length ∧ l.map g = l'.map f
  | [], _ => ⟨[], rfl, rfl⟩
  | a :: l, h => by
    obtain ⟨b, hb⟩ := h a (by simp)
    obtain ⟨l', h1, h2⟩ := choose_map (l := l) fun x hx => h x (List.mem_cons_of_mem _ hx)
    exact ⟨b :: l', by simp [h1], by simp [hb, h2]⟩
theorem ty_int {B : Nat} {P : Program} {k : IntKind} {f : Nat} {cs : List AV} {t : TypeId} (ht : P.underlying t = some (.int k)) (h : tyC P B f t cs) : ∃ n, cs = [.int k n] ∧ k.min ≤ n ∧ n ≤ k.max := by
  cases f with
  | zero => simp [tyC] at h
  | succ f =>
    simp only [tyC, ht] at h
    obtain ⟨n, h1, h2, h3⟩ := h
    exact ⟨n, h1, h2, h3⟩
theorem ty_u8 {B : Nat} {P : Program} {f : Nat} {cs : List AV} {t : TypeId} (ht : P.underlying t = some (.int .u8)) (h : tyC P B f t cs) : ∃ b : UInt8, cs = [u8 b] := by
  obtain ⟨n, rfl, h1, h2⟩ := ty_int ht h
  refine ⟨UInt8.ofNat n.toNat, ?_⟩
  have a1 : IntKind.u8.min = 0 := rfl
  have a2 : IntKind.u8.max = 255 := rfl
  rw [a1] at h1; rw [a2] at h2
  rw [u8_nat]
  congr 2
  omega
/-- a slice of what is known -/
theorem ty_slice {B : Nat} {P : Program} {α : Type} {g : α → AV} {f : Nat} {cs : List AV} {t e : TypeId} (ht : P.underlying t = some (.slice e)) (h : tyC P B f t cs) (hel : ∀ f cs, tyC P B f e cs → ∃ a, mkE (agT P e) cs = g a) :
    ∃ l : List α, cs = [.lst (l.map g)] ∧ l.length * P.bytesOf e ≤ B := by
  cases f with
  | zero => simp [tyC] at h
  | succ f =>
    simp only [tyC, ht] at h
    obtain ⟨ess, rfl, h1, h2⟩ := h
    obtain ⟨l, h3, h4⟩ := choose_map (f := g) (g := mkE (agT P e)) (l := ess) fun a ha => hel f a (h2 a ha).1
    exact ⟨l, by rw [h4], by rw [h3]; exact h1⟩
theorem ty_struct {B : Nat} {P : Program} {f : Nat} {cs : List AV} {t : TypeId} {fs : Array Field} (ht : P.underlying t = some (.struct fs)) (h : tyC P B f t cs) :
    ∃ (f' : Nat) (css : List (List AV)), cs = css.flatten ∧ forall2 (fun (g : Field) cs => tyC P B f' g.type cs ∧ cs.length = P.cellsOf g.type) fs.toList css := by
  cases f with
  | zero => simp [tyC] at h
  | succ f =>
    simp only [tyC, ht] at h
    obtain ⟨css, h1, h2⟩ := h
    exact ⟨f, css, h1, h2⟩
theorem agT_f {P : Program} {t : TypeId} {d : TypeDesc} (h : P.underlying t = some d) (hs : (match d with | .struct _ | .array _ _ => true | _ => false) = false) : agT P t = false := by
  unfold agT; rw [h]; cases d <;> simp_all
theorem forall2_1 {α β : Type} {p : α → β → Prop} {a : α} {xs : List α} {bs : List β} (h : forall2 p (a :: xs) bs) : ∃ b bs', bs = b :: bs' ∧ p a b ∧ forall2 p xs bs' := by
  cases bs with
  | nil => exact h.elim
  | cons b bs => exact ⟨b, bs, rfl, h.1, h.2⟩
theorem forall2_0 {α β : Type} {p : α → β → Prop} {bs : List β} (h : forall2 p [] bs) : bs = [] := by
  cases bs with
  | nil => rfl
  | cons b bs => exact h.elim

theorem ty_i64 {B : Nat} {f : Nat} {cs : List AV} (h : tyC Tryd.prog B f 3 cs) : ∃ n, cs = [.int .i64 n] := by
  obtain ⟨n, h1, _⟩ := ty_int Tryd.underlying3 h
  exact ⟨n, h1⟩
theorem ty_bytesB {B f : Nat} {cs : List AV} (h : tyC Tryd.prog B f 35 cs) : ∃ l : List UInt8, cs = [bys l] ∧ l.length ≤ B := by
  obtain ⟨l, h1, h2⟩ := ty_slice (g := u8) Tryd.underlying35 h fun f cs h => by
    obtain ⟨b, rfl⟩ := ty_u8 Tryd.underlying5 h
    exact ⟨b, by rw [agT_f Tryd.underlying5 rfl]; rfl⟩
  have : Tryd.prog.bytesOf 5 = 1 := by kernel_rfl
  rw [this] at h2
  exact ⟨l, h1, by omega⟩
theorem mc_tab {X : Cx} {k : IntKind} {g : Nat} : ∀ (zs : List Int) (o : Nat), (∀ i, i < zs.length → X.w.cell? ⟨g, o + i, none⟩ = some (.int k (zs.getD i 0))) → Mc X (zs.map (AV.int k)) g o
  | [], o, h => by simp [Mc]
  | z :: zs, o, h => by
    simp only [List.map_cons, Mc]
    refine ⟨⟨.int k z, ?_, by simp [M]⟩, mc_tab zs (o + 1) fun i hi => ?_⟩
    · have := h 0 (by simp)
      rw [cell?_plain] at this
      simpa using this
    · have := h (i + 1) (by simpa using hi)
      rw [show o + (i + 1) = o + 1 + i by omega] at this
      simpa using this
theorem law_callsG {C : Cfg} (hI : ∀ f F a H r, C.I f = some F → F a H = some r → SpecR C.P C.G f a H r) {f : FuncId} {W : World} {args : Array Value} {avs : List AV}
    (hG : ∀ g cs, C.G g = some cs → g < W.heap.size ∧ Mc ⟨fun _ _ => False, fun _ => none, [], W⟩ cs g 0)
    (hB : ∀ g cs, C.G g = some cs → belL 0 cs = true) (hm : Ms ⟨fun _ _ => False, fun _ => none, [], W⟩ avs args.toList) (h : EV C f avs [] = some (.bool true, [], [])) (hb : base f = f := by rfl) :
    Calls C.P f args W fun e W' => e = .returned (.bool true) ∧ Below W.heap.size W W' := by
  have hR : Rel C.G ⟨fun _ _ => False, fun _ => none, [], W⟩ :=
    ⟨fun l z es b z' h1 h2 => (by simp at h1), fun l l' b z z' h1 => (by simp [isOwn, isRow, isMp] at h1), ⟨fun l es b z h1 => (by simp at h1), fun l es h1 => (by simp at h1)⟩, fun g cs hg => ⟨⟨⟨(hG g cs hg).1, fun k x => x⟩, fun hw => by obtain ⟨l, z, hr, _⟩ := hw; simp [isOwn, isRow, isMp] at hr⟩, (hG g cs hg).2⟩, fun l z es h1 => (by simp at h1), fun b k hb => hb.elim, hB⟩
  have hc := EV_ok C hI _ _ _ _ h ⟨fun _ _ => False, fun _ => none, [], W⟩ args rfl hR hm
  rw [hb] at hc
  refine hc.mono fun e W' he => ?_
  obtain ⟨u, X', e1, e2, e3, e4, e5, e6, e7⟩ := he
  unfold M at e7
  subst e7
  refine ⟨e2, ?_⟩
  subst e1
  exact ⟨e5.os, e5.tape, e5.output, e5.size, fun k hk => e5.keep k hk (fun hw => by obtain ⟨l, z, hr, _⟩ := hw; simp [isOwn, isRow, isMp] at hr)⟩
theorem size_of_cell {W : World} {g o : Nat} {v : Value} (h : W.cell? ⟨g, o, none⟩ = some v) : g < W.heap.size := by
  rw [cell?_plain] at h
  unfold cellAt at h
  split at h
  · rename_i hx; exact (Array.getElem?_eq_some_iff.1 hx).1
  · cases h
def kZ : List Int := kCst.map fun x => (x.toNat : Int)
def hZ : List Int := hCst.map fun x => (x.toNat : Int)
theorem laid_G {W : World} (h : laidMet Tryd.prog [("heartwood/sha.constants", Lib.tabData .u32 kZ), ("heartwood/sha.first", Lib.tabData .u32 hZ)] W) :
    ∀ g cs, C.G g = some cs → g < W.heap.size ∧ Mc ⟨fun _ _ => False, fun _ => none, [], W⟩ cs g 0 := by
  have g2 : Tryd.prog.globalNamed "heartwood/sha.constants" = some 2 := by kernel_rfl
  have g0 : Tryd.prog.globalNamed "heartwood/sha.first" = some 1 := by kernel_rfl
  have T2 : Lib.TabIs Tryd.prog W "heartwood/sha.constants" .u32 kZ := Lib.tabIs_of_head g2 (t := 201) (by kernel_rfl) Tryd.underlying201 Tryd.underlying27 (by kernel_rfl) (by kernel_rfl) h
  have T0 : Lib.TabIs Tryd.prog W "heartwood/sha.first" .u32 hZ := Lib.tabIs_of_head g0 (t := 28) (by kernel_rfl) Tryd.underlying28 Tryd.underlying27 (by kernel_rfl) (by kernel_rfl) (laidMet.tail h)
  have c2 : ∀ i, i < kZ.length → W.cell? ⟨2, 0 + i, none⟩ = some (.int .u32 (kZ.getD i 0)) := fun i hi => by rw [Nat.zero_add]; exact T2.cell g2 i hi
  have c0 : ∀ i, i < hZ.length → W.cell? ⟨1, 0 + i, none⟩ = some (.int .u32 (hZ.getD i 0)) := fun i hi => by rw [Nat.zero_add]; exact T0.cell g0 i hi
  intro g cs hg
  have hg' : glC g = some cs := hg
  unfold glC at hg'
  split at hg'
  · injection hg' with hg'; subst hg'
    refine ⟨size_of_cell (c0 0 (by decide)), ?_⟩
    have : gl_first = hZ.map (AV.int .u32) := by simp [gl_first, hZ, u32, Function.comp_def]
    rw [this]; exact mc_tab hZ 0 c0
  · injection hg' with hg'; subst hg'
    refine ⟨size_of_cell (c2 0 (by decide)), ?_⟩
    have : gl_constants = kZ.map (AV.int .u32) := by simp [gl_constants, kZ, u32, Function.comp_def]
    rw [this]; exact mc_tab kZ 0 c2
  · cases hg'
theorem C_B : ∀ g cs, C.G g = some cs → belL 0 cs = true := fun g cs hg => by
  have hg' : glC g = some cs := hg
  unfold glC at hg'
  split at hg'
  · injection hg' with hg'; subst hg'; exact belL_good 0 _ (goodL_u32 hCst)
  · injection hg' with hg'; subst hg'; exact belL_good 0 _ (goodL_u32 kCst)
  · cases hg'
end Go.Pm
