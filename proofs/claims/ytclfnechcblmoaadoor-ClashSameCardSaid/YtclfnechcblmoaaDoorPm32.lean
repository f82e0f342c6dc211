/- An argument of a law. -/
import Derived.Test.YtclfnechcblmoaaDoorPm31
import Derived.WideShapes
namespace Go.Pm
set_option linter.unusedVariables false
set_option linter.unusedSimpArgs false
theorem arg_M {B : Nat} {P : Program} {X : Cx} {H : Type} {enc : TypeId × Value → H} {base base' : Nat} {r : Reach} {W : World} {spare : Nat → Bool} {held : Bool} (hF : ∀ b, ¬ X.F b) (hw : ∀ b, ¬ X.wr b) {k : Nat} {t : TypeId} {v : Value} {d : DataW H} {ps : List MemPlace}
    (hp : plainT P k t = true) (hv : Value.okWide P W r base' t v) (h : DataW.Trod enc P X.w base spare held t v d ps) (hwt : ∀ w ∈ d.weights P t, w ≤ B) : ∃ (a : AV) (fuel : Nat) (avs : List AV), M X a v ∧ a = mkE (agT P t) avs ∧ tyC P B fuel t avs := by
  obtain ⟨fuel, hf⟩ := h
  obtain ⟨avs, h1, h2, h3, h4⟩ := trod_M hF hw fuel k t _ _ _ hp hf hwt
  refine ⟨mkE (agT P t) avs, fuel, avs, ?_, rfl, h2⟩
  cases ha : agT P t with
  | true =>
    have : ∃ cs, v = .agg cs := by
      unfold Value.okWide at hv
      unfold agT at ha
      split at ha
      · rename_i hu; rw [hu] at hv; obtain ⟨cs, e, _⟩ := hv; exact ⟨cs, e⟩
      · rename_i hu; rw [hu] at hv; obtain ⟨cs, e, _⟩ := hv; exact ⟨cs, e⟩
      · cases ha
    obtain ⟨cs, rfl⟩ := this
    simp only [mkE, if_true]
    unfold M
    exact ⟨cs, rfl, h1⟩
  | false =>
    have hl := h4 ha
    have hc : v.cells.toList = [v] := by
      · obtain ⟨hp1, hp2⟩ : plainS P (closeL P k [t]) = true ∧ (closeL P k [t]).contains t = true := by
          unfold plainT at hp; simpa only [Bool.and_eq_true] using hp
        replace hp := List.all_eq_true.1 hp1 t (by simpa using hp2)
        unfold Value.okWide at hv
        unfold agT at ha
        split at hp
        · rename_i hu; rw [hu] at hv; simp only [Cell.okWide, hu] at hv; cases v <;> simp_all [Cell.ok, Value.cells]
        · rename_i hu; rw [hu] at hv; simp only [Cell.okWide, hu] at hv; cases v <;> simp_all [Cell.ok, Value.cells]
        · rename_i hu; rw [hu] at hv; simp only [Cell.okWide, hu] at hv; cases v <;> simp_all [Cell.ok, Value.cells]
        · rename_i hu; rw [hu] at hv; simp only [Cell.okWide, hu] at hv; cases v <;> simp_all [Cell.ok, Value.cells]
        · rename_i hu; rw [hu] at ha; cases ha
        · rename_i hu; rw [hu] at ha; cases ha
        · cases hp
    rw [hc] at h1
    rcases avs with _ | ⟨a, _ | ⟨b, l⟩⟩
    · simp at hl
    · simp only [mkE, Bool.false_eq_true, if_false, List.headD_cons]
      obtain ⟨u, us, e1, e2, e3⟩ := h1
      injection e1 with e1 e4; subst e1; exact e2
    · simp at hl
end Go.Pm
