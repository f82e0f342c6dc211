/- slices.Clone: of an empty slice that may be nil or not. -/
import Derived.Test.YtclfnechcblmoaaDoorPm28
namespace Go.Pm
set_option linter.unusedVariables false
open Classical in
noncomputable def clonesF (C0 : Cfg) (f : FuncId) (a : List AV) (H : List AObj) : Option R3 := match a with
  | [.lst []] => if EV C0 f [.emp true] H = some (.lst [], H, []) ∧ EV C0 f [.emp false] H = some (.lst [], H, []) then some (.lst [], H, []) else none
  | a => EV C0 f a H
/-- these functions answer an empty slice, nil or not, by an empty slice, and else as they do -/
noncomputable def clonesI (C0 : Cfg) (l : List FuncId) (f : FuncId) : Option (List AV → List AObj → Option R3) :=
  if l.contains f = true then some (clonesF C0 f) else none
theorem clone_ok {C0 : Cfg} {l : List FuncId} (h0 : ∀ f, C0.I f = none) : ∀ f F a H r, clonesI C0 l f = some F → F a H = some r → SpecR C0.P C0.G f a H r := by
  intro f F a H r hF hr
  unfold clonesI at hF
  split at hF
  · injection hF with hF; subst hF
    have hok := EV_ok C0 (fun f F a H r h => by rw [h0] at h; cases h)
    unfold clonesF at hr
    split at hr
    · split at hr
      · rename_i hc
        injection hr with hr; subst hr
        intro X args hH hR hM
        obtain ⟨v, vs, e1, e2, e3⟩ := hM
        have hv : ∃ b, M X (.emp b) v := by
          unfold M at e2
          obtain ⟨A, c, k1, k2, _⟩ := e2
          exact ⟨A.isNone, by unfold M; exact ⟨A, c, k1, rfl⟩⟩
        obtain ⟨b, hb⟩ := hv
        cases b
        · exact hok _ _ _ _ hc.2 X args hH hR ⟨v, vs, e1, hb, e3⟩
        · exact hok _ _ _ _ hc.1 X args hH hR ⟨v, vs, e1, hb, e3⟩
      · cases hr
    · exact hok _ _ _ _ hr
  · cases hF
theorem clone_nil {C C0 : Cfg} {l : List FuncId} {f : FuncId} {H : List AObj} (hI : C.I f = clonesI C0 l f) (hf : l.contains f = true) (h1 : EV C0 f [.emp true] H = some (.lst [], H, [])) (h2 : EV C0 f [.emp false] H = some (.lst [], H, [])) :
    EV C f [.lst []] H = some (.lst [], H, []) := by
  have : C.I f = some (clonesF C0 f) := by rw [hI]; unfold clonesI; rw [if_pos hf]
  rw [EV_I C this]
  unfold clonesF
  simp only
  rw [if_pos ⟨h1, h2⟩]
theorem clone_cons {C C0 : Cfg} {l : List FuncId} {f : FuncId} {e : AV} {es : List AV} {H : List AObj} (hI : C.I f = clonesI C0 l f) (hf : l.contains f = true) : EV C f [.lst (e :: es)] H = EV C0 f [.lst (e :: es)] H := by
  have : C.I f = some (clonesF C0 f) := by rw [hI]; unfold clonesI; rw [if_pos hf]
  rw [EV_I C this]
  rfl
end Go.Pm
