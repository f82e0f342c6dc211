/- A part of the proof: what the functions of the program answer, as plain lists and numbers. -/
import Derived.Test.YtclfnechcblmoaaDoorP22
namespace Go.Pm
open Go.Proofs
set_option linter.unusedVariables false
set_option linter.unusedSimpArgs false
theorem deep_mono (t : Tre) : ∀ {m n : Int}, m ≤ n → deepF t m = false → deepF t n = false := by
  induction t using Tre.ind with
  | h t ih =>
    intro m n hmn h
    rw [deepF_eq, Bool.or_eq_false_iff] at h ⊢
    refine ⟨?_, ?_⟩
    · have := h.1
      rw [Bool.and_eq_false_iff] at this ⊢
      rcases this with h1 | h1
      · exact .inl h1
      · right; simp only [decide_eq_false_iff_not] at h1 ⊢; omega
    · have h2 := h.2
      rw [List.any_eq_false] at h2 ⊢
      intro k hk
      have := h2 k hk
      simp only [Bool.not_eq_true] at this ⊢
      exact ih k hk (m := m - 1) (by omega) this
structure Gd (w : Int) (t : Tre) : Prop where
  ok : t.ok
  formed : formedF t = true
  deep : deepF t 64 = false
  told : (toldF w t).isSome = true
def dg (w : Int) (t : Tre) : List UInt8 := (toldF w t).getD []
theorem Gd.dgs {w : Int} {t : Tre} (h : Gd w t) : toldF w t = some (dg w t) := by
  have := h.told
  unfold dg
  cases hx : toldF w t with
  | none => rw [hx] at this; cases this
  | some d => rfl
theorem Gd.len {w : Int} {t : Tre} (h : Gd w t) (hw : wOk w = true) : ((dg w t).length : Int) = w := told_len hw t h.formed h.dgs
theorem Gd.check {w : Int} {t : Tre} (h : Gd w t) : checkF t = 0 := by simp [checkF, h.deep, h.formed]
theorem Gd.dig {w : Int} {t : Tre} (h : Gd w t) (hw : wOk w = true) : digF w t = (0, dg w t) := by
  simp [digF, hw, h.check, h.dgs]
structure Nd (w : Int) (t l r : Tre) : Prop where
  kind : t.kind = 1 ∨ t.kind = 2
  key : t.key.length ≤ 80
  value : t.value.length ≤ 1024
  kids : t.kids = [l, r]
  pv : ((pv w t).length : Int) = w
  gl : Gd w l
  gr : Gd w r
  dg : dg w t = ofF w (nodeF (dg w l) (ofF w (pairF t.key (Go.Pm.pv w t))) (dg w r))
theorem Gd.node {w : Int} {t : Tre} (h : Gd w t) (h0 : t.kind ≠ 0) (h3 : t.kind ≠ 3) : ∃ l r, Nd w t l r := by
  obtain ⟨hkk, hka, hva, l, r, hk⟩ := formed_node h.formed h0 h3
  have ht := h.dgs
  rw [told_node w t l r h0 h3 hk] at ht
  have hpv : ((pv w t).length : Int) = w := by
    by_cases hp : ((pv w t).length : Int) = w
    · exact hp
    · rw [if_neg hp] at ht; cases ht
  rw [if_pos hpv] at ht
  have hl : l ∈ t.kids := by rw [hk]; simp
  have hr : r ∈ t.kids := by rw [hk]; simp
  have hok := ((ok_eq t).1 h.ok).2.2.2.2
  have hdk : ∀ k ∈ t.kids, deepF k 64 = false := fun k hk => by
    have := h.deep
    rw [deepF_eq, Bool.or_eq_false_iff, List.any_eq_false] at this
    have := this.2 k hk
    simp only [Bool.not_eq_true] at this
    exact deep_mono k (by omega) this
  cases hL : toldF w l with
  | none => rw [hL] at ht; cases ht
  | some x =>
    cases hR : toldF w r with
    | none => rw [hL, hR] at ht; cases ht
    | some y =>
      rw [hL, hR] at ht
      simp only [Option.some.injEq] at ht
      exact ⟨l, r, hkk, hka, hva, hk, hpv, ⟨hok l hl, formed_kids h.formed l hl, hdk l hl, by simp [hL]⟩, ⟨hok r hr, formed_kids h.formed r hr, hdk r hr, by simp [hR]⟩, by rw [← ht]; simp [dg, hL, hR]⟩
def ownF (w : Int) (t : Tre) : List UInt8 := if t.kind = 0 then [3] else match t.kids with
  | [l, r] => nodeF (dg w l) (ofF w (pairF t.key (pv w t))) (dg w r)
  | _ => []
theorem Nd.own {w : Int} {t l r : Tre} (h : Nd w t l r) : ownF w t = nodeF (Go.Pm.dg w l) (ofF w (pairF t.key (Go.Pm.pv w t))) (Go.Pm.dg w r) := by
  have h0 : t.kind ≠ 0 := by rcases h.kind with e | e <;> omega
  unfold ownF; rw [if_neg h0, h.kids]
end Go.Pm
