/- From the evaluator to a law's call. -/
import Derived.Test.YtclfnechcblmoaaDoorPm26
import Derived.Below
namespace Go.Pm
open Go.RowKit Go.WideShapes Go.ChangeShapes
set_option linter.unusedVariables false
theorem law_calls {C : Cfg} (hI : ∀ f F a H r, C.I f = some F → F a H = some r → SpecR C.P C.G f a H r) (hG : ∀ g, C.G g = none) {f : FuncId} {W : World} {args : Array Value} {avs : List AV}
    (hm : Ms ⟨fun _ => False, fun _ => none, [], W⟩ avs args.toList) (h : EV C f avs [] = some (.bool true, [], [])) :
    Calls C.P f args W fun e W' => e = .returned (.bool true) ∧ Below W.heap.size W W' := by
  have hR : Rel C.G ⟨fun _ => False, fun _ => none, [], W⟩ :=
    ⟨fun l z es b z' h1 h2 => (by simp at h1), fun l l' b z z' h1 => (by simp [isRow] at h1), fun g cs hg => (by rw [hG] at hg; cases hg), fun l z es h1 => (by simp at h1), fun b hb => hb.elim, fun g cs hg => (by rw [hG] at hg; cases hg)⟩
  refine (EV_ok C hI _ _ _ _ h ⟨fun _ => False, fun _ => none, [], W⟩ args rfl hR hm).mono fun e W' he => ?_
  obtain ⟨u, X', e1, e2, e3, e4, e5, e6, e7⟩ := he
  unfold M at e7
  subst e7
  refine ⟨e2, ?_⟩
  subst e1
  exact ⟨e5.os, e5.tape, e5.output, e5.size, fun k hk => e5.keep k hk (fun hw => by obtain ⟨l, z, hr, _⟩ := hw; simp [isRow] at hr)⟩
end Go.Pm
