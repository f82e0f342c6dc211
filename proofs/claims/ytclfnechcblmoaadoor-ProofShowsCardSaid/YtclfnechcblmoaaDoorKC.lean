/- How simp goes through a printed text: from the front to the back, not into what is still to come. -/
import Derived.Test.YtclfnechcblmoaaDoorPmE
namespace Go.Pm
set_option linter.unusedVariables false
section
variable {α β : Type}
@[congr] theorem obind_congr {a a' : Option α} {f : α → Option β} (h : a = a') : a.bind f = a'.bind f := by rw [h]
@[congr] theorem condK_congr {c c' : AV} {a b : Option β} (h : c = c') : condK c a b = condK c' a b := by rw [h]
@[congr] theorem splitK_congr {c c' : AV} {a b : Option β} (h : c = c') : splitK c a b = splitK c' a b := by rw [h]
@[congr] theorem condB_congr {c c' : Bool} {a : Option β} (h : c = c') : condB c a = condB c' a := by rw [h]
@[congr] theorem callK_congr {env : Env} {raw : Bool} {g : FuncId} {args args' : List AV} {H H' : List AObj} {K : AV → List AObj → List Nat → Option β} (h : args = args') (h2 : H = H') : callK env raw g args H K = callK env raw g args' H' K := by rw [h, h2]
@[congr] theorem valK_congr {P : Program} {env : Env} {raw : Bool} {f f' : AV} {args args' : List AV} {H H' : List AObj} {K : AV → List AObj → List Nat → Option β} (h0 : f = f') (h : args = args') (h2 : H = H') : valK P env raw f args H K = valK P env raw f' args' H' K := by rw [h0, h, h2]
@[congr] theorem newK_congr {x x' : AV} {H H' : List AObj} {K : AV → List AObj → List Nat → Option β} (h : x = x') (h2 : H = H') : newK x H K = newK x' H' K := by rw [h, h2]
@[congr] theorem litK_congr {z n : Nat} {z0 : AV} {ps ps' : List (Nat × AV)} {H H' : List AObj} {K : AV → List AObj → List Nat → Option β} (h : ps = ps') (h2 : H = H') : litK z n z0 ps H K = litK z n z0 ps' H' K := by rw [h, h2]
@[congr] theorem rawK_congr {z n : Nat} {z0 : AV} {ps ps' : List (Nat × AV)} {H H' : List AObj} {K : AV → List AObj → List Nat → Option β} (h : ps = ps') (h2 : H = H') : rawK z n z0 ps H K = rawK z n z0 ps' H' K := by rw [h, h2]
@[congr] theorem stoK_congr {s : Nat} {a a' v v' : AV} {H H' : List AObj} {K : List AObj → List Nat → Option β} (h : a = a') (h1 : v = v') (h2 : H = H') : stoK s a v H K = stoK s a' v' H' K := by rw [h, h1, h2]
@[congr] theorem mkK_congr {z b : Nat} {z0 n n' c c' : AV} {H H' : List AObj} {K : AV → List AObj → List Nat → Option β} (h : n = n') (h1 : c = c') (h2 : H = H') : mkK z b z0 n c H K = mkK z b z0 n' c' H' K := by rw [h, h1, h2]
@[congr] theorem appK_congr {z b : Nat} {x x' y y' : AV} {H H' : List AObj} {K : AV → List AObj → List Nat → Option β} (h : x = x') (h1 : y = y') (h2 : H = H') : appK z b x y H K = appK z b x' y' H' K := by rw [h, h1, h2]
@[congr] theorem frzK_congr {v v' : AV} {H H' : List AObj} {K : AV → List AObj → Option β} (h : v = v') (h2 : H = H') : frzK v H K = frzK v' H' K := by rw [h, h2]
@[congr] theorem drawK_congr {p p' : Prop} {a : Option β} (h : p = p') : drawK p a = drawK p' a := by rw [h]
end
end Go.Pm
