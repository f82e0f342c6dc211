/- A part of the proof: what the functions of the program answer, as plain lists and numbers. -/
import Derived.WideShapes
import Derived.Test.YtndkpoacbheemaaGreatP6
namespace Go.Pm
set_option linter.unusedVariables false
set_option linter.unusedSimpArgs false
theorem arg_M {B : Nat} {P : Program} {X : Cx} {H : Type} {enc : TypeId × Value → H} {base base' : Nat} {r : Reach} {W : World} {spare : Nat → Bool} {held : Bool} (hF : ∀ b, ¬ X.F b) (hw : ∀ b, ¬ X.wr b) {k : Nat} {t : TypeId} {v : Value} {d : DataW H} {ps : List MemPlace}
  (hp : plainT P k t = true) (hv : Value.okWide P W r base' t v) (h : DataW.Trod enc P X.w base spare held t v d ps) (hwt : ∀ w ∈ d.weights P t, w ≤ B) : ∃ (a : AV) (fuel : Nat) (avs : List AV), M X a v ∧ a = mkE (agT P t) avs ∧ tyC P B fuel t avs := by
 obtain ⟨fuel, hf⟩ := h
 obtain ⟨avs, h1, h2, h3, h4⟩ := trod_M hF hw fuel k t _ _ _ hp hf hwt
 refine ⟨mkE (agT P t) avs, fuel, avs, ?_, rfl, h2⟩
 cases ha : agT P t with
 | true =>
  have : ∃ cs, v = .agg cs := by
    unfold Value.okWide at hv
    unfold agT at ha
    split at ha
    · rename_i hu; rw [hu] at hv; obtain ⟨cs, e, _⟩ := hv; exact ⟨cs, e⟩
    · rename_i hu; rw [hu] at hv; obtain ⟨cs, e, _⟩ := hv; exact ⟨cs, e⟩
    · cases ha
  obtain ⟨cs, rfl⟩ := this
  simp only [mkE, if_true]
  unfold M
  exact ⟨cs, rfl, h1⟩
 | false =>
  have hl := h4 ha
  have hc : v.cells.toList = [v] := by
    · obtain ⟨hp1, hp2⟩ : plainS P (closeL P k [t]) = true ∧ (closeL P k [t]).contains t = true := by
        unfold plainT at hp; simpa only [Bool.and_eq_true] using hp
      replace hp := List.all_eq_true.1 hp1 t (by simpa using hp2)
      unfold Value.okWide at hv
      unfold agT at ha
      split at hp
      · rename_i hu; rw [hu] at hv; simp only [Cell.okWide, hu] at hv; cases v <;> simp_all [Cell.ok, Value.cells]
      · rename_i hu; rw [hu] at hv; simp only [Cell.okWide, hu] at hv; cases v <;> simp_all [Cell.ok, Value.cells]
      · rename_i hu; rw [hu] at hv; simp only [Cell.okWide, hu] at hv; cases v <;> simp_all [Cell.ok, Value.cells]
      · rename_i hu; rw [hu] at hv; simp only [Cell.okWide, hu] at hv; cases v <;> simp_all [Cell.ok, Value.cells]
      · rename_i hu; rw [hu] at ha; cases ha
      · rename_i hu; rw [hu] at ha; cases ha
      · cases hp
  rw [hc] at h1
  rcases avs with _ | ⟨a, _ | ⟨b, l⟩⟩
  · simp at hl
  · simp only [mkE, Bool.false_eq_true, if_false, List.headD_cons]
    obtain ⟨u, us, e1, e2, e3⟩ := h1
    injection e1 with e1 e4; subst e1; exact e2
  · simp at hl
end Go.Pm
namespace Go.Pm
set_option linter.unusedVariables false
section
variable {α β : Type}
@[congr] theorem obind_congr {a a' : Option α} {f : α → Option β} (h : a = a') : a.bind f = a'.bind f := by rw [h]
@[congr] theorem condK_congr {c c' : AV} {a b : Option β} (h : c = c') : condK c a b = condK c' a b := by rw [h]
@[congr] theorem splitK_congr {c c' : AV} {a b : Option β} (h : c = c') : splitK c a b = splitK c' a b := by rw [h]
@[congr] theorem condB_congr {c c' : Bool} {a : Option β} (h : c = c') : condB c a = condB c' a := by rw [h]
@[congr] theorem callK_congr {env : Env} {raw : Bool} {g : FuncId} {args args' : List AV} {H H' : List AObj} {K : AV → List AObj → List Nat → Option β} (h : args = args') (h2 : H = H') : callK env raw g args H K = callK env raw g args' H' K := by rw [h, h2]
@[congr] theorem valK_congr {P : Program} {env : Env} {raw : Bool} {f f' : AV} {args args' : List AV} {H H' : List AObj} {K : AV → List AObj → List Nat → Option β} (h0 : f = f') (h : args = args') (h2 : H = H') : valK P env raw f args H K = valK P env raw f' args' H' K := by rw [h0, h, h2]
@[congr] theorem newK_congr {x x' : AV} {H H' : List AObj} {K : AV → List AObj → List Nat → Option β} (h : x = x') (h2 : H = H') : newK x H K = newK x' H' K := by rw [h, h2]
@[congr] theorem litK_congr {z n : Nat} {z0 : AV} {ps ps' : List (Nat × AV)} {H H' : List AObj} {K : AV → List AObj → List Nat → Option β} (h : ps = ps') (h2 : H = H') : litK z n z0 ps H K = litK z n z0 ps' H' K := by rw [h, h2]
@[congr] theorem rawK_congr {z n : Nat} {z0 : AV} {ps ps' : List (Nat × AV)} {H H' : List AObj} {K : AV → List AObj → List Nat → Option β} (h : ps = ps') (h2 : H = H') : rawK z n z0 ps H K = rawK z n z0 ps' H' K := by rw [h, h2]
@[congr] theorem stoK_congr {s : Nat} {a a' v v' : AV} {H H' : List AObj} {K : List AObj → List Nat → Option β} (h : a = a') (h1 : v = v') (h2 : H = H') : stoK s a v H K = stoK s a' v' H' K := by rw [h, h1, h2]
@[congr] theorem mkK_congr {z b : Nat} {z0 n n' c c' : AV} {H H' : List AObj} {K : AV → List AObj → List Nat → Option β} (h : n = n') (h1 : c = c') (h2 : H = H') : mkK z b z0 n c H K = mkK z b z0 n' c' H' K := by rw [h, h1, h2]
@[congr] theorem appK_congr {z b : Nat} {x x' y y' : AV} {H H' : List AObj} {K : AV → List AObj → List Nat → Option β} (h : x = x') (h1 : y = y') (h2 : H = H') : appK z b x y H K = appK z b x' y' H' K := by rw [h, h1, h2]
@[congr] theorem frzK_congr {v v' : AV} {H H' : List AObj} {K : AV → List AObj → Option β} (h : v = v') (h2 : H = H') : frzK v H K = frzK v' H' K := by rw [h, h2]
@[congr] theorem drawK_congr {p p' : Prop} {a : Option β} (h : p = p') : drawK p a = drawK p' a := by rw [h]
end
end Go.Pm
