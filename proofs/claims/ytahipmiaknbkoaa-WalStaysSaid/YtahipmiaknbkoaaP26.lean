/- A part of the proof: what the functions of the program answer, as plain lists and numbers. -/
import Derived.Test.YtahipmiaknbkoaaP25
namespace Go.Pm
open Go.Proofs
set_option linter.unusedVariables false
set_option linter.unusedSimpArgs false
theorem Concat_r3_ok {H : List AObj} {k m n : Nat} (a c l : List UInt8) (h0a : 0 < a.length) (hk : H[k]? = some (.row 1 [bys a, bys c, .slc m 0 n n])) (hm : H[m]? = some (.row 1 (l.map u8))) (hn : n = l.length) (ht : a.length + c.length + l.length ≤ 2^46) :
    EV C n_Concat_byte_r [.slc k 0 3 3] H = some (bys (a ++ c ++ l), H, []) := by
  subst hn
  refine Concat_byte_r_of ?_
  dsimp only
  have hX : ∀ X : List AObj, (H ++ X)[k]? = some (.row 1 [bys a, bys c, .slc m 0 l.length l.length]) := fun X => by
    rw [List.getElem?_append_left (List.getElem?_eq_some_iff.1 hk).1]; exact hk
  have hY : ∀ X : List AObj, (H ++ X)[m]? = some (.row 1 (l.map u8)) := fun X => by
    rw [List.getElem?_append_left (List.getElem?_eq_some_iff.1 hm).1]; exact hm
  have lk : ∀ X : List AObj, lenV (.slc k 0 3 3) (H ++ X) = some (.int .i64 3) := fun X => by simp [lenV, lenA, lenOf, hX X]
  have lm : ∀ X : List AObj, lenV (.slc m 0 l.length l.length) (H ++ X) = some (.int .i64 l.length) := fun X => by simp [lenV, lenA, lenOf, hY X]
  have x0 : ∀ X : List AObj, ixA 1 (.slc k 0 3 3) (.int .i64 0) (H ++ X) = some (.ptr k 3 0 0) := fun X => by simp [ixA, indexA, hX X]
  have x1 : ∀ X : List AObj, ixA 1 (.slc k 0 3 3) (.int .i64 1) (H ++ X) = some (.ptr k 3 1 0) := fun X => by simp [ixA, indexA, hX X]
  have x2 : ∀ X : List AObj, ixA 1 (.slc k 0 3 3) (.int .i64 2) (H ++ X) = some (.ptr k 3 2 0) := fun X => by simp [ixA, indexA, hX X]
  have d0 : ∀ X : List AObj, loadA false 1 (.ptr k 3 0 0) (H ++ X) = some (bys a) := fun X => by simp [loadA, hX X, ldv, AV.cells, bys]
  have d1 : ∀ X : List AObj, loadA false 1 (.ptr k 3 1 0) (H ++ X) = some (bys c) := fun X => by simp [loadA, hX X, ldv, AV.cells, bys]
  have d2 : ∀ X : List AObj, loadA false 1 (.ptr k 3 2 0) (H ++ X) = some (.slc m 0 l.length l.length) := fun X => by simp [loadA, hX X, ldv, AV.cells, bys]
  have em : ∀ X : List AObj, elemsA (.slc m 0 l.length l.length) (H ++ X) = some (l.map u8) := fun X => by
    simp only [elemsA, hY X, List.length_map, if_true, List.drop_zero]; rw [List.take_of_length_le (by simp)]
  have w1 : IntKind.i64.wrap ((0 : Int) + 1) = 1 := rfl
  have w2 : IntKind.i64.wrap ((1 : Int) + 1) = 2 := rfl
  have w2' : IntKind.i64.wrap ((2 : Int) + 1) = 3 := rfl
  have w3 : IntKind.i64.wrap ((0 : Int) + (a.length : Int)) = (a.length : Int) := w64 (by omega) (by omega)
  have w4 : IntKind.i64.wrap ((a.length : Int) + (c.length : Int)) = ((a.length + c.length : Nat) : Int) := w64 (by omega) (by omega)
  have w5 : IntKind.i64.wrap (((a.length + c.length : Nat) : Int) + (l.length : Int)) = ((a.length + c.length + l.length : Nat) : Int) := w64 (by omega) (by omega)
  have key : ∀ (X : List AObj), X = [] → (lenV (.slc k 0 3 3) (H ++ X)).bind (fun a1 => Concat_byte_r_J3 H.length (.slc k 0 3 3) (.int .i64 0) (.slc k 0 3 3) a1 (.int .i64 0) (H ++ X) []) = some (bys (a ++ c ++ l), H, []) := fun X hX0 => by
    rw [lk, Option.bind_some]
    refine Concat_byte_r_J3_of ?_
    simp only [lss_int, Option.bind_some, condK_dec]
    rw [if_pos (by decide), x0, Option.bind_some, d0, Option.bind_some, lenV_bys, Option.bind_some, add_int, Option.bind_some, w3, lss_int, Option.bind_some, condK_dec, if_neg (by omega), add_int, Option.bind_some, w1]
    refine Concat_byte_r_J3_of ?_
    simp only [lss_int, Option.bind_some, condK_dec]
    rw [if_pos (by decide), x1, Option.bind_some, d1, Option.bind_some, lenV_bys, Option.bind_some, add_int, Option.bind_some, w4, lss_int, Option.bind_some, condK_dec, if_neg (by omega), add_int, Option.bind_some, w2]
    refine Concat_byte_r_J3_of ?_
    simp only [lss_int, Option.bind_some, condK_dec]
    rw [if_pos (by decide), x2, Option.bind_some, d2, Option.bind_some, lm, Option.bind_some, add_int, Option.bind_some, w5, lss_int, Option.bind_some, condK_dec, if_neg (by omega), add_int, Option.bind_some, w2']
    refine Concat_byte_r_J3_of ?_
    simp only [lss_int, Option.bind_some, condK_dec]
    rw [if_neg (by decide)]
    subst hX0
    rw [callK_raw (Grow_byte_ok _ (by omega) ht _)]
    dsimp only
    rw [List.append_nil, lk, Option.bind_some]
    have grow : ∀ (p q : List UInt8) (Y : AV), elemsA Y (H ++ [AObj.dead, .row 1 (p.map u8)]) = some (q.map u8) → p.length + q.length ≤ 2^46 → ∀ K : KR, appK 1 1 (.slc (H.length + 1) 0 p.length p.length) Y (H ++ [AObj.dead, .row 1 (p.map u8)]) K = K (.slc (H.length + 1) 0 (p ++ q).length (p ++ q).length) (H ++ [AObj.dead, .row 1 ((p ++ q).map u8)]) [] := fun p q Y hY2 hpq K => by
      have hr2 : (H ++ [AObj.dead, .row 1 (p.map u8)])[H.length + 1]? = some (.row 1 (p.map u8)) := by rw [List.getElem?_append_right (by omega)]; simp
      rw [appK_row (n := p.length) (es := p.map u8) (ys := q.map u8) hY2 hr2 (List.length_map _).symm (lz_u8 q) (by decide) (by decide) (by decide) (by rw [List.length_map]; omega), esc_good (goodL_u8 q)]
      have hs2 : ∀ Z, (H ++ [AObj.dead, .row 1 (p.map u8)]).set (H.length + 1) Z = H ++ [.dead, Z] := fun Z => by rw [List.set_append_right _ _ (by omega)]; simp
      rw [hs2, List.length_map, ← List.map_append, List.length_append]
    refine Concat_byte_r_J11_of ?_
    simp only [lss_int, Option.bind_some, condK_dec]
    rw [if_pos (by decide), x0, Option.bind_some, d0, Option.bind_some]
    rw [show (AV.slc (H.length + 1) 0 0 0) = .slc (H.length + 1) 0 ([] : List UInt8).length ([] : List UInt8).length from rfl, show (H ++ [AObj.dead, .row 1 []]) = H ++ [AObj.dead, .row 1 (([] : List UInt8).map u8)] from rfl, grow [] a (bys a) rfl (by simp; omega), List.nil_append, add_int, Option.bind_some, w1]
    refine Concat_byte_r_J11_of ?_
    simp only [lss_int, Option.bind_some, condK_dec]
    rw [if_pos (by decide), x1, Option.bind_some, d1, Option.bind_some, grow a c (bys c) rfl (by omega), add_int, Option.bind_some, w2]
    refine Concat_byte_r_J11_of ?_
    simp only [lss_int, Option.bind_some, condK_dec]
    rw [if_pos (by decide), x2, Option.bind_some, d2, Option.bind_some, grow (a ++ c) l _ (em _) (by rw [List.length_append]; omega), add_int, Option.bind_some, w2']
    refine Concat_byte_r_J11_of ?_
    simp only [lss_int, Option.bind_some, condK_dec]
    rw [if_neg (by decide)]
    exact end_own (l := a ++ c ++ l) rfl (by rw [List.getElem?_append_right (by omega)]; simp) rfl (by omega) rfl
  have := key [] rfl
  rwa [List.append_nil] at this
end Go.Pm
