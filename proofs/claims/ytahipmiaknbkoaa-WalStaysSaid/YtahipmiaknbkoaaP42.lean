/- A part of the proof: what the functions of the program answer, as plain lists and numbers. -/
import Derived.Test.YtahipmiaknbkoaaP38
namespace Go.Pm
open Go.Proofs
set_option linter.unusedVariables false
set_option linter.unusedSimpArgs false
theorem last_row (H : List AObj) (X : AObj) : (H ++ [X])[H.length]? = some X := by simp
theorem set_last (H : List AObj) (X Y : AObj) : (H ++ [X]).set H.length Y = H ++ [Y] := by simp
theorem good_bl (l : List (List UInt8)) : (AV.lst (l.map bys)).good = true := by unfold AV.good; exact goodL_bys l
theorem good_b2 (a b : List (List UInt8)) : goodL [AV.lst (a.map bys), .lst (b.map bys)] = true := by unfold goodL goodL goodL; rw [good_bl, good_bl]; rfl
theorem er0 : erA 0 = .nili := rfl
end Go.Pm
