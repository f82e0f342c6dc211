/- A part of the proof: what the functions of the program answer, as plain lists and numbers. -/
import Derived.Test.YtaoklfecdcakbaaP12
namespace Go.Pm
open Go.Proofs
set_option linter.unusedVariables false
set_option linter.unusedSimpArgs false
theorem appB {β : Type} {H : List AObj} {l n : Nat} {es ys : List UInt8} {y : AV} {K : AV → List AObj → List Nat → Option β} (hy : elemsA y H = some (ys.map u8)) (h : H[l]? = some (.row 1 (es.map u8))) (hn : n = es.length) (h5 : n + ys.length ≤ 140737489400832) :
    appK 1 1 (.slc l 0 n n) y H K = K (.slc l 0 (n + ys.length) (n + ys.length)) (H.set l (.row 1 ((es ++ ys).map u8))) [] := by
  rw [appK_row hy h (by simpa using hn) (lz_u8 _) (by decide) (by decide) (by decide) (by simp; omega), esc_good (by simp)]
  simp
theorem lit1 {β : Type} (b : UInt8) (H : List AObj) (K : AV → List AObj → List Nat → Option β) : litK 1 1 (.int .u8 0) [(0, u8 b)] H K = K (bys [b]) H [] := Eq.trans rfl rfl
theorem raw1 {β : Type} (b : UInt8) (H : List AObj) (K : AV → List AObj → List Nat → Option β) : rawK 1 1 (.int .u8 0) [(0, u8 b)] H K = K (.slc H.length 0 1 1) (H ++ [.row 1 ([b].map u8)]) [] := Eq.trans rfl rfl
theorem raw0 {β : Type} (H : List AObj) (K : AV → List AObj → List Nat → Option β) : rawK 1 0 (.int .u8 0) [] H K = K (.slc H.length 0 0 0) (H ++ [.row 1 (([] : List UInt8).map u8)]) [] := Eq.trans rfl rfl
theorem lenV_slc {H : List AObj} {l z n : Nat} {es : List AV} (h : H[l]? = some (.row z es)) (hn : n = es.length) : lenV (.slc l 0 n n) H = some (.int .i64 n) := by
  have : lenOf H l = some n := by unfold lenOf; simp [h, hn]
  simp [lenV, lenA, this]
end Go.Pm
