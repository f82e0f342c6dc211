/- A part of the proof: what the functions of the program answer, as plain lists and numbers. -/
import Derived.Test.YtahipmiaknbkoaaP6
import Derived.Test.YtahipmiaknbkoaaP43
namespace Go.Pm
open Go.Proofs
set_option linter.unusedVariables false
theorem isF_ok : ∀ a H r, isF 44 a H = some r → SpecR C.P C.G n_errors_Is a H r := by
  intro a H r hr
  unfold isF at hr
  split at hr
  · rename_i t x u y
    split at hr
    · rename_i hc
      obtain ⟨rfl, rfl, rfl⟩ := hc
      injection hr with hr; subst hr
      intro X args hH hR hM
      unfold Ms at hM
      obtain ⟨v1, vs1, e1, ⟨u1, f1, g1⟩, hM⟩ := hM
      unfold Ms at hM
      obtain ⟨v2, vs2, e2, ⟨u2, f2, g2⟩, hM⟩ := hM
      unfold Ms at hM
      unfold M at g1 g2
      have ha : args = #[.iface 44 (.int .i64 x), .iface 44 (.int .i64 x)] := by
        apply Array.toList_inj.1
        rw [e1, e2, hM, f1, f2, g1, g2]
      subst ha
      refine Calls.mono (PmIs.is_same x X.w) ?_
      rintro e w' ⟨h1, h2⟩
      exact ⟨.bool true, X, h2.symm, h1, hH, hR, Ext.refl X, by rw [hH]; exact EscI.refl _, rfl⟩
    · cases hr
  · cases hr
end Go.Pm
