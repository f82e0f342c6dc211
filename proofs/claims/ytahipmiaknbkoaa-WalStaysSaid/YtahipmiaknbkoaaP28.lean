/- A part of the proof: what the functions of the program answer, as plain lists and numbers. -/
import Derived.Test.YtahipmiaknbkoaaP15
import Derived.Test.YtahipmiaknbkoaaP27
namespace Go.Pm
open Go.Proofs
set_option linter.unusedVariables false
set_option linter.unusedSimpArgs false
theorem frames_r_ok {H : List AObj} {k m n : Nat} (l : List UInt8) (h : l.length ≤ 2097152) (hk : H[k]? = some (.row 1 [.slc m 0 n n])) (hm : H[m]? = some (.row 1 (l.map u8))) (hn : n = l.length) :
    EV C n_wal_frames_r [.slc k 0 1 1] H = some (.tup [bys (frame l), .nili], H, []) := by
  subst hn
  refine wal_frames_r_of ?_
  dsimp only
  have hX : ∀ X : List AObj, (H ++ X)[k]? = some (.row 1 [.slc m 0 l.length l.length]) := fun X => by
    rw [List.getElem?_append_left (List.getElem?_eq_some_iff.1 hk).1]; exact hk
  have hY : ∀ X : List AObj, (H ++ X)[m]? = some (.row 1 (l.map u8)) := fun X => by
    rw [List.getElem?_append_left (List.getElem?_eq_some_iff.1 hm).1]; exact hm
  have lk : ∀ X : List AObj, lenV (.slc k 0 1 1) (H ++ X) = some (.int .i64 1) := fun X => by simp [lenV, lenA, lenOf, hX X]
  have x0 : ∀ X : List AObj, ixA 1 (.slc k 0 1 1) (.int .i64 0) (H ++ X) = some (.ptr k 1 0 0) := fun X => by simp [ixA, indexA, hX X]
  have d0 : ∀ X : List AObj, loadA false 1 (.ptr k 1 0 0) (H ++ X) = some (.slc m 0 l.length l.length) := fun X => by simp [loadA, hX X, ldv, AV.cells, bys]
  have w1 : IntKind.i64.wrap ((0 : Int) + 1) = 1 := rfl
  have e0 : ∀ ms c, binA .neq (.interface ms) c true .nili .nili = some (.bool false) := fun _ _ => rfl
  rw [lk, Option.bind_some]
  refine wal_frames_r_J3_of ?_
  simp only [lss_int, Option.bind_some, condK_dec]
  rw [if_pos (by decide), x0, Option.bind_some, d0, Option.bind_some, callK_raw (Frame_r_ok l h (hY _) rfl)]
  simp only [extA_0, extA_1, Option.bind_some, e0, condK_f]
  have hv : (H ++ [AObj.vrow])[H.length]? = some (vro 1 []) := by simp [vro]
  rw [appK_vro (n := 0) (es := []) (ys := (frame l).map u8) rfl hv rfl (lz_u8 _) (by decide) (by decide) (by decide) (by rw [List.length_map]; simp [frame, fourL]; omega), esc_good (goodL_u8 _)]
  rw [List.set_append_right _ _ (Nat.le_refl _), Nat.sub_self, List.set_cons_zero, List.nil_append, List.length_map, Nat.zero_add]
  simp only [add_int, Option.bind_some, w1]
  refine wal_frames_r_J3_of ?_
  simp only [lss_int, Option.bind_some, condK_dec]
  rw [if_neg (by decide)]
  have hf : frz (H ++ [vro 1 ((frame l).map u8)]) (.slc H.length 0 (frame l).length (frame l).length) = some (bys (frame l)) := frz_vro (z := 1) (by simp) (List.length_map _).symm (goodL_u8 _)
  unfold endB endA
  have g : (AV.tup [bys (frame l), .nili]).good = true := by simp
  rw [if_neg (by decide), frz_tup (frzL_cons hf (frzL_cons rfl rfl))]
  simp only [Option.map_some, Option.bind_some, kills, killsL, killAll, Bool.false_eq_true, if_false, bel_good _ _ g, List.append_nil, List.all_nil, and_self, if_true]
  rw [List.set_append_right _ _ (Nat.le_refl _), List.take_left]
end Go.Pm
