/- A part of the proof: what the functions of the program answer, as plain lists and numbers. -/
import Derived.Test.YtclfnechcblmoaaDoorP24
namespace Go.Pm
open Go.Proofs
set_option linter.unusedVariables false
set_option linter.unusedSimpArgs false
def Tre.nil : Tre := .mk 0 [] [] [] []
def Tre.cut (d : List UInt8) : Tre := .mk 3 [] [] d []
theorem nil_ok : Tre.nil.ok := by simp [Tre.nil, Tre.ok, okL]
theorem tcut_ok {d : List UInt8} (h : d.length ≤ 2^50) : (Tre.cut d).ok := by simp [Tre.cut, Tre.ok, okL, h]
theorem deep_nil (n : Int) : deepF Tre.nil n = false := by simp [Tre.nil, deepF, Tre.isNode, deepL, Tre.kind, Tre.kids]
theorem deep_cut (d : List UInt8) (n : Int) : deepF (.cut d) n = false := by simp [Tre.cut, deepF, Tre.isNode, deepL, Tre.kind, Tre.kids]
theorem formed_nil : formedF Tre.nil = true := by simp [Tre.nil, formedF, formed1, formedL, Tre.kind, Tre.kids, Tre.key, Tre.value, Tre.digest]
theorem formed_cut (d : List UInt8) : formedF (.cut d) = true := by simp [Tre.cut, formedF, formed1, formedL, Tre.kind, Tre.kids, Tre.key, Tre.value, Tre.digest]
theorem fill_nil {β : Type} (K : List AV → Option β) : (fillB (AV.cells (.agg [(.int .i64 0), .nils, .nils, .nils, .nils])) []).bind K = K [.int .i64 0, .nils, .nils, .nils, .nils] := Eq.trans rfl rfl
theorem fill_cut {β : Type} (d : List UInt8) (K : List AV → Option β) : (fillB (AV.cells (.agg [(.int .i64 0), .nils, .nils, .nils, .nils])) [(0, 1, (.int .i64 3)), (3, 1, bys d)]).bind K = K [.int .i64 3, .nils, .nils, bys d, .nils] := by
  simp [fillB, AV.cells, AV.isBad, bys]
theorem frz_nil0 (H : List AObj) : frz H (.agg [.int .i64 0, .nils, .nils, .nils, .nils]) = some Tre.nil.av := Eq.trans rfl rfl
theorem frz_cut0 (d : List UInt8) (H : List AObj) : frz H (.agg [.int .i64 3, .nils, .nils, bys d, .nils]) = some (Tre.cut d).av := by
  refine frz_agg (us := [.int .i64 3, .lst [], .lst [], bys d, .lst []]) (frzL_cons rfl (frzL_cons rfl (frzL_cons rfl (frzL_cons (frz_good _ _ (good_bys d)) (frzL_cons rfl rfl))))) |>.trans ?_
  rw [av_eq]; rfl
theorem new_z {β : Type} (H : List AObj) (K : AV → List AObj → List Nat → Option β) : newK (.agg [(.int .i64 0), .nils, .nils, .nils, .nils]) H K = K (.ptr H.length 1 0 0) (H ++ [.row 5 [.agg [(.int .i64 0), .nils, .nils, .nils, .nils]]]) [] := Eq.trans rfl rfl
end Go.Pm
