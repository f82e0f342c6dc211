/- A part of the proof: what the functions of the program answer, as plain lists and numbers. -/
import Derived.Test.YtclfnechcblmoaaDoorP24
namespace Go.Pm
open Go.Proofs
set_option linter.unusedVariables false
set_option linter.unusedSimpArgs false
def Tre.nil : Tre := .mk 0 [] [] [] []
def Tre.cut (d : List UInt8) : Tre := .mk 3 [] [] d []
theorem nil_ok : Tre.nil.ok := by simp [Tre.nil, Tre.ok, okL]
theorem tcut_ok {d : List UInt8} (h : d.length ≤ 2^50) : (Tre.cut d).ok := by simp [Tre.cut, Tre.ok, okL, h]
theorem deep_nil (n : Int) : deepF Tre.nil n = false := by simp [Tre.nil, deepF, Tre.isNode, deepL, Tre.kind, Tre.kids]
theorem deep_cut (d : List UInt8) (n : Int) : deepF (.cut d) n = false := by simp [Tre.cut, deepF, Tre.isNode, deepL, Tre.kind, Tre.kids]
theorem formed_nil : formedF Tre.nil = true := by simp [Tre.nil, formedF, formed1, formedL, Tre.kind, Tre.kids, Tre.key, Tre.value, Tre.digest]
theorem formed_cut (d : List UInt8) : formedF (.cut d) = true := by simp [Tre.cut, formedF, formed1, formedL, Tre.kind, Tre.kids, Tre.key, Tre.value, Tre.digest]
theorem gd_nil (w : Int) : Gd w Tre.nil := ⟨nil_ok, formed_nil, deep_nil 64, by rw [told_none w Tre.nil rfl]; rfl⟩
theorem gd_cut {w : Int} {d : List UInt8} (hw : wOk w = true) (h : (d.length : Int) = w) : Gd w (.cut d) ∧ dg w (.cut d) = d := by
  have hw' : 1 ≤ w ∧ w ≤ 32 := by simpa [wOk] using hw
  have e : toldF w (.cut d) = some d := by rw [told_cut w (.cut d) rfl]; exact if_pos h
  exact ⟨⟨tcut_ok (by omega), formed_cut d, deep_cut d 64, by rw [e]; rfl⟩, by rw [dg, e]; rfl⟩
theorem dg_nil (w : Int) : dg w Tre.nil = ofF w [3] := by rw [dg, told_none w Tre.nil rfl]; rfl
theorem search_self {w : Int} (p : Tre) : Gd w p → searchF w p p = none := by
  induction p using Tre.ind with
  | h p ih =>
    intro hp
    rw [searchF_eq]
    split
    · rfl
    · rename_i h3
      simp only [ne_eq, not_true_eq_false, if_false, and_false]
      split
      · rfl
      · rename_i h0
        obtain ⟨l, r, np⟩ := hp.node h0 (fun e => h3 (.inl e))
        rw [np.kids, searchL, ih l (by rw [np.kids]; simp) np.gl]
        simp only [searchL]
        rw [ih r (by rw [np.kids]; simp) np.gr]
theorem find_self {w : Int} {p : Tre} (hw : wOk w = true) (h : Gd w p) : findF w p p = (9, [], []) := by
  simp [findF, h.dig hw, search_self p h]
theorem sum3 : (sumF [3]).take 1 = [8] := by kernel_rfl
theorem find_up1 : findF 1 .nil .nil = (9, [], []) := find_self (by decide) (gd_nil 1)
theorem find_up2 : findF 1 .nil (.cut [9]) = (6, [], []) := by
  obtain ⟨g, e⟩ := gd_cut (w := 1) (d := [9]) (by decide) rfl
  have h1 : dg 1 .nil = [8] := by rw [dg_nil]; exact sum3
  simp [findF, (gd_nil 1).dig (by decide), g.dig (by decide), e, h1]
theorem fill_nil {β : Type} (K : List AV → Option β) : (fillB (AV.cells (.agg [(.int .i64 0), .nils, .nils, .nils, .nils])) []).bind K = K [.int .i64 0, .nils, .nils, .nils, .nils] := Eq.trans rfl rfl
theorem fill_cut {β : Type} (d : List UInt8) (K : List AV → Option β) : (fillB (AV.cells (.agg [(.int .i64 0), .nils, .nils, .nils, .nils])) [(0, 1, (.int .i64 3)), (3, 1, bys d)]).bind K = K [.int .i64 3, .nils, .nils, bys d, .nils] := by
  simp [fillB, AV.cells, AV.isBad, bys]
theorem frz_nil0 (H : List AObj) : frz H (.agg [.int .i64 0, .nils, .nils, .nils, .nils]) = some Tre.nil.av := Eq.trans rfl rfl
theorem frz_cut0 (d : List UInt8) (H : List AObj) : frz H (.agg [.int .i64 3, .nils, .nils, bys d, .nils]) = some (Tre.cut d).av := by
  refine frz_agg (us := [.int .i64 3, .lst [], .lst [], bys d, .lst []]) (frzL_cons rfl (frzL_cons rfl (frzL_cons rfl (frzL_cons (frz_good _ _ (good_bys d)) (frzL_cons rfl rfl))))) |>.trans ?_
  rw [av_eq]; rfl
theorem up_ok : EV C n_law09_up [] [] = some (.bool true, [], []) := by
  refine law09_up_of ?_
  simp only [fill_nil]
  rw [callK_nil (bs := [.int .i64 1, Tre.nil.av, Tre.nil.av]) (by simp [killsL, kills]) (frzL_cons rfl (frzL_cons (frz_nil0 _) (frzL_cons (frz_nil0 _) rfl))) (by simp) (Find_ok 1 .nil .nil nil_ok nil_ok)]
  simp only [resFd, extA_0, extA_1, extA_2, Option.bind_some]
  rw [lit0 9 9 rfl]
  rw [fill_cut [9], callK_nil (bs := [.int .i64 1, Tre.nil.av, (Tre.cut [9]).av]) (by simp [killsL, kills, bys]) (frzL_cons rfl (frzL_cons (frz_nil0 _) (frzL_cons (frz_cut0 [9] _) rfl))) (by simp) (Find_ok 1 .nil (.cut [9]) nil_ok (tcut_ok (by simp)))]
  simp only [resFd, extA_0, extA_1, extA_2, Option.bind_some, find_up1, find_up2]
  rw [eqlE _ _ _ (by decide)]
  simp only [decide_true, Option.bind_some, splitK_t]
  rw [eqlE _ _ _ (by decide)]
  simp only [decide_true, Option.bind_some]
  exact endB_good rfl
theorem new_z {β : Type} (H : List AObj) (K : AV → List AObj → List Nat → Option β) : newK (.agg [(.int .i64 0), .nils, .nils, .nils, .nils]) H K = K (.ptr H.length 1 0 0) (H ++ [.row 5 [.agg [(.int .i64 0), .nils, .nils, .nils, .nils]]]) [] := Eq.trans rfl rfl
end Go.Pm
