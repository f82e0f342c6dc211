/- A part of the proof: what the functions of the program answer, as plain lists and numbers. -/
import Derived.Test.YtclfnechcblmoaaDoorP29
import Derived.Test.YtclfnechcblmoaaDoorP33
namespace Go.Pm
open Go.Proofs
set_option linter.unusedVariables false
set_option linter.unusedSimpArgs false
mutual
def dpF : Tre → Nat
  | .mk _ _ _ _ ks => match dpL ks with
    | a :: b :: _ => max a b + 1
    | _ => 0
def dpL : List Tre → List Nat
  | [] => []
  | t :: ts => dpF t :: dpL ts
end
theorem dp_leaf {t : Tre} (h : t.kids = []) : dpF t = 0 := by
  cases t with | mk k a b c ks => simp only [Tre.kids] at h; subst h; rw [dpF]; rfl
theorem dp_two {t l r : Tre} (h : t.kids = [l, r]) : dpF t = max (dpF l) (dpF r) + 1 := by
  cases t with | mk k a b c ks => simp only [Tre.kids] at h; subst h; rw [dpF]; rfl
mutual
def evenF : Tre → Bool
  | .mk _ _ _ _ ks => match ks, evenL ks with
    | l :: r :: _, a :: b :: _ => a && b && decide (dpF l ≤ dpF r + 1) && decide (dpF r ≤ dpF l + 1)
    | _, _ => true
def evenL : List Tre → List Bool
  | [] => []
  | t :: ts => evenF t :: evenL ts
end
theorem even_leaf {t : Tre} (h : t.kids = []) : evenF t = true := by
  cases t with | mk k a b c ks => simp only [Tre.kids] at h; subst h; unfold evenF; rfl
theorem even_two {t l r : Tre} (h : t.kids = [l, r]) : evenF t = (evenF l && evenF r && decide (dpF l ≤ dpF r + 1) && decide (dpF r ≤ dpF l + 1)) := by
  cases t with | mk k a b c ks => simp only [Tre.kids] at h; subst h; simp only [evenF, evenL]
mutual
def fullF : Tre → Bool
  | .mk k _ _ _ ks => !(decide (k = 2) || decide (k = 3)) && fullL ks
def fullL : List Tre → Bool
  | [] => true
  | t :: ts => fullF t && fullL ts
end
theorem fullL_all (l : List Tre) : fullL l = l.all fullF := by
  induction l with
  | nil => rfl
  | cons t l ih => rw [fullL, ih, List.all_cons]
theorem full_eq (t : Tre) : fullF t = (!(decide (t.kind = 2) || decide (t.kind = 3)) && t.kids.all fullF) := by
  cases t with | mk k a b c ks => rw [fullF, fullL_all]; rfl
theorem dp_nodes (t : Tre) : formedF t = true → dpF t ≤ (nodesF t).length := by
  induction t using Tre.ind with
  | h t ih =>
    intro hf
    rcases formed_two hf with h | ⟨l, r, h⟩
    · rw [dp_leaf h]; exact Nat.zero_le _
    · have a := ih l (by rw [h]; simp) (formed_kids hf l (by rw [h]; simp))
      have b := ih r (by rw [h]; simp) (formed_kids hf r (by rw [h]; simp))
      rw [dp_two h, nodes_two h, List.length_append, List.length_cons]; omega
theorem maxA2 (x y : Int) : maxA [.int .i64 x, .int .i64 y] = some (.int .i64 (max x y)) := by
  simp only [maxA]
  simp
  omega
theorem rDepth_ok (t : Tre) : t.ok → formedF t = true → dpF t ≤ 2^40 → EV C n_ref04_Depth [t.av] [] = some (.int .i64 (dpF t : Int), [], []) := by
  induction t using Tre.ind with
  | h t ih =>
    intro ht hf hn
    have hks := ((ok_eq t).1 ht).2.2.2.2
    refine ref04_Depth_of ?_
    simp -implicitDefEqProofs only [ZS, ZT, Nat.reduceAdd]
    rcases formed_two hf with h | ⟨l, r, h⟩
    · rw [dp_leaf h, h]
      simp -implicitDefEqProofs only [List.length_nil, Int.natCast_zero, if_true]
      exact endB_good rfl
    · rw [dp_two h] at hn ⊢
      have hl : l ∈ t.kids := by rw [h]; simp
      have hr : r ∈ t.kids := by rw [h]; simp
      have x0 : ∀ H, ixA 5 (kidsA t.kids) (.int .i64 0) H = some (.ip l.av.cells) := fun H => ixA_kids (i := 0) (by rw [h]; rfl)
      have x1 : ∀ H, ixA 5 (kidsA t.kids) (.int .i64 1) H = some (.ip r.av.cells) := fun H => ixA_kids (i := 1) (by rw [h]; rfl)
      have e0 : ¬ ((t.kids.length : Int) = 0) := by rw [h]; simp
      have e1 : IntKind.i64.wrap ((dpF l : Int) + 1) = (dpF l : Int) + 1 := by rw [wrap64] <;> omega
      have e2 : IntKind.i64.wrap ((dpF r : Int) + 1) = (dpF r : Int) + 1 := by rw [wrap64] <;> omega
      rw [if_neg e0]
      simp -implicitDefEqProofs only [x0, x1, ZS, ZT, Nat.reduceAdd]
      rw [callK_ok (by simp) (ih l hl (hks l hl) (formed_kids hf l hl) (by omega))]
      simp -implicitDefEqProofs only [x0, x1, ZS, ZT, Nat.reduceAdd]
      rw [callK_ok (by simp) (ih r hr (hks r hr) (formed_kids hf r hr) (by omega))]
      simp -implicitDefEqProofs only [add_int, e1, e2, ZS, ZT, Nat.reduceAdd]
      split
      · rw [show ((max (dpF l) (dpF r) + 1 : Nat) : Int) = (dpF l : Int) + 1 by omega]; exact endB_good rfl
      · rw [show ((max (dpF l) (dpF r) + 1 : Nat) : Int) = (dpF r : Int) + 1 by omega]; exact endB_good rfl
theorem even_ok (t : Tre) : t.ok → formedF t = true → dpF t ≤ 2^40 → EV C n_avl_even [t.av] [] = some (.tup [.int .i64 (dpF t : Int), .bool (evenF t)], [], []) := by
  induction t using Tre.ind with
  | h t ih =>
    intro ht hf hn
    have hks := ((ok_eq t).1 ht).2.2.2.2
    refine avl_even_of ?_
    simp -implicitDefEqProofs only [ZS, ZT, Nat.reduceAdd]
    rcases formed_two hf with h | ⟨l, r, h⟩
    · rw [dp_leaf h, even_leaf h, h]
      simp -implicitDefEqProofs only [List.length_nil, Int.natCast_zero, if_true]
      exact endB_good rfl
    · rw [even_two h]
      rw [dp_two h] at hn ⊢
      have hl : l ∈ t.kids := by rw [h]; simp
      have hr : r ∈ t.kids := by rw [h]; simp
      have x0 : ∀ H, ixA 5 (kidsA t.kids) (.int .i64 0) H = some (.ip l.av.cells) := fun H => ixA_kids (i := 0) (by rw [h]; rfl)
      have x1 : ∀ H, ixA 5 (kidsA t.kids) (.int .i64 1) H = some (.ip r.av.cells) := fun H => ixA_kids (i := 1) (by rw [h]; rfl)
      have e0 : ¬ ((t.kids.length : Int) = 0) := by rw [h]; simp
      have e1 : IntKind.i64.wrap (max (dpF l : Int) (dpF r : Int) + 1) = ((max (dpF l) (dpF r) + 1 : Nat) : Int) := by rw [wrap64] <;> omega
      have e2 : IntKind.i64.wrap ((dpF l : Int) - (dpF r : Int)) = (dpF l : Int) - (dpF r : Int) := by rw [wrap64] <;> omega
      have e3 : IntKind.i64.wrap ((dpF r : Int) - (dpF l : Int)) = (dpF r : Int) - (dpF l : Int) := by rw [wrap64] <;> omega
      rw [if_neg e0]
      simp -implicitDefEqProofs only [x0, x1, ZS, ZT, Nat.reduceAdd]
      rw [callK_ok (by simp) (ih l hl (hks l hl) (formed_kids hf l hl) (by omega))]
      simp -implicitDefEqProofs only [x0, x1, ZS, ZT, Nat.reduceAdd]
      rw [callK_ok (by simp) (ih r hr (hks r hr) (formed_kids hf r hr) (by omega))]
      simp -implicitDefEqProofs only [maxA2, add_int, sub_int, e1, e2, e3, ZS, ZT, Nat.reduceAdd]
      cases evenF l with
      | false => simp -implicitDefEqProofs only [Bool.false_and, ZS, ZT, Nat.reduceAdd]; exact endB_good rfl
      | true =>
        cases evenF r with
        | false => simp -implicitDefEqProofs only [Bool.false_and, Bool.and_false, ZS, ZT, Nat.reduceAdd]; exact endB_good rfl
        | true =>
          simp -implicitDefEqProofs only [Bool.true_and, ZS, ZT, Nat.reduceAdd]
          by_cases h1 : dpF l ≤ dpF r + 1
          · have h1' : (dpF l : Int) - (dpF r : Int) ≤ 1 := by omega
            rw [if_pos h1']
            rw [show decide ((dpF r : Int) - (dpF l : Int) ≤ 1) = decide (dpF r ≤ dpF l + 1) from by congr 1; exact propext ⟨fun _ => by omega, fun _ => by omega⟩]
            simp -implicitDefEqProofs only [h1, decide_true, Bool.true_and]
            exact endB_good rfl
          · have h1' : ¬ (dpF l : Int) - (dpF r : Int) ≤ 1 := by omega
            rw [if_neg h1']
            simp -implicitDefEqProofs only [h1, decide_false, Bool.false_and]
            exact endB_good rfl
end Go.Pm
namespace Go.Pm
open Go.Proofs
set_option linter.unusedVariables false
set_option linter.unusedSimpArgs false
theorem full_ok (t : Tre) : t.ok → EV C n_tree_full [t.av] [] = some (.bool (fullF t), [], []) := by
  induction t using Tre.ind with
  | h t ih =>
    intro ht
    obtain ⟨_, _, _, hk, hks⟩ := (ok_eq t).1 ht
    refine tree_full_of ?_
    have c1 : ∀ k ∈ t.kids, EV C n_tree_full_1 [k.av] [] = some (.bool (!fullF k), [], []) := fun k hk => by
      refine tree_full_1_of ?_
      simp -implicitDefEqProofs only [ZS, ZT, Nat.reduceAdd]
      rw [callK_ok (by simp) (ih k hk (hks k hk))]
      simp -implicitDefEqProofs only [ZS, ZT, Nat.reduceAdd]
      exact endB_good rfl
    have CF : EV C n_ContainsFunc_api_Tree [kidsA t.kids, .clo n_tree_full_1 [] []] [] = some (.bool (t.kids.any fun k => !fullF k), [], []) := Contains_pure (fun k => !fullF k) (by kernel_rfl) t.kids (by omega) c1
    simp -implicitDefEqProofs only [ZS, ZT, Nat.reduceAdd]
    rw [full_eq]
    by_cases h2 : t.kind = 2
    · rw [if_pos h2]
      simp -implicitDefEqProofs only [h2, decide_true, Bool.true_or, Bool.not_true, Bool.false_and]
      exact endB_good rfl
    · rw [if_neg h2]
      by_cases h3 : t.kind = 3
      · rw [if_pos h3]
        simp -implicitDefEqProofs only [h3, decide_true, Bool.or_true, Bool.not_true, Bool.false_and]
        exact endB_good rfl
      · rw [if_neg h3]
        have hkl : killsL [kidsA t.kids, (AV.clo n_tree_full_1 [] [])] = [] := by simp [killsL, kills, kills_good]
        rw [callK_ok (by simp) CF]
        simp -implicitDefEqProofs only [ZS, ZT, Nat.reduceAdd]
        have e : (!(t.kids.any fun k => !fullF k)) = (!(decide (t.kind = 2) || decide (t.kind = 3)) && t.kids.all fullF) := by
          simp only [h2, h3, decide_false, Bool.or_self, Bool.not_false, Bool.true_and]
          rw [List.not_any_eq_all_not]
          simp
        rw [e]
        exact endB_good rfl
theorem TFull_ok (t : Tre) (ht : t.ok) : EV C n_tree_Full [t.av] [] = some (.bool (decide (checkF t = 0) && fullF t), [], []) := by
  refine tree_Full_of ?_
  simp -implicitDefEqProofs only [ZS, ZT, Nat.reduceAdd]
  rw [callK_ok (by simp) (Check_ok t ht)]
  simp -implicitDefEqProofs only [eqlE0, ZS, ZT, Nat.reduceAdd]
  by_cases h : checkF t = 0
  · simp -implicitDefEqProofs only [h, Bool.true_and, ZS, ZT, Nat.reduceAdd]
    rw [callK_ok (by simp) (full_ok t ht)]
    exact endB_good rfl
  · simp -implicitDefEqProofs only [h, Bool.false_and, ZS, ZT, Nat.reduceAdd]
    exact endB_good rfl
def isF (t : Tre) : Bool := decide (checkF t = 0) && (fullF t && (risN (nodesF t) && evenF t))
theorem avl_loop (t : Tre) (ht : t.ok) (hf : formedF t = true) (l : List Tre) (hl : l.length ≤ 2^40) (hd : dpF t ≤ 2^40) : ∀ (m i : Nat) (E : List Nat), l.length ≤ i + 1 + m →
    avl_Is_J5 0 (.ptr 0 1 0 0) (kidsA l) (.int .i64 ((i + 1 : Nat) : Int)) [.row 5 [t.av]] E = some (.bool (risN (l.drop i) && evenF t), [], []) := by
  intro m
  have fin : ∀ (i : Nat) (E : List Nat), l.length ≤ i + 1 → avl_Is_J5 0 (.ptr 0 1 0 0) (kidsA l) (.int .i64 ((i + 1 : Nat) : Int)) [.row 5 [t.av]] E = some (.bool (risN (l.drop i) && evenF t), [], []) := fun i E hi => by
    refine avl_Is_J5_of ?_
    have e1 : ¬ (((i + 1 : Nat) : Int) < (l.length : Int)) := by omega
    have e2 : risN (l.drop i) = true := by
      cases hx : l.drop i with
      | nil => rfl
      | cons a x =>
        have : (l.drop i).length ≤ 1 := by simp; omega
        rw [hx] at this
        cases x with
        | nil => rfl
        | cons b y => simp at this
    simp -implicitDefEqProofs only [e1, ZS, ZT, Nat.reduceAdd]
    rw [callK_ok (by simp) (even_ok t ht hf hd), e2]
    simp -implicitDefEqProofs only [Bool.true_and, ZS, ZT, Nat.reduceAdd]
    exact endB_good rfl
  induction m with
  | zero => intro i E hi; exact fin i E (by omega)
  | succ m ih =>
    intro i E hi
    by_cases hlt : i + 1 < l.length
    · refine avl_Is_J5_of ?_
      have e1 : (((i + 1 : Nat) : Int) < (l.length : Int)) := by omega
      have e3 : IntKind.i64.wrap (((i + 1 : Nat) : Int) + 1) = ((i + 1 + 1 : Nat) : Int) := w64 (by omega) (by omega)
      have e4 : IntKind.i64.wrap (((i + 1 : Nat) : Int) - 1) = ((i : Nat) : Int) := w64 (by omega) (by omega)
      have hi0 : i < l.length := by omega
      simp -implicitDefEqProofs only [e1, e3, e4, sub_int, add_int, ixA_kids (List.getElem?_eq_getElem hi0), ixA_kids (List.getElem?_eq_getElem hlt), dr_tr1, CompareD, cmp_ge, ZS, ZT, Nat.reduceAdd]
      rw [risN_drop hlt]
      cases hc : ltB l[i].key l[i + 1].key with
      | true =>
        simp -implicitDefEqProofs only [Bool.true_and, add_int, e3, ZS, ZT, Nat.reduceAdd]
        exact ih (i + 1) E (by omega)
      | false =>
        simp -implicitDefEqProofs only [Bool.false_and, ZS, ZT, Nat.reduceAdd]
        exact endB_good rfl
    · exact fin i E (by omega)
theorem avlIs_ok (t : Tre) (ht : t.ok) (hn : (nodesF t).length ≤ 2^40) : EV C n_avl_Is [t.av] [] = some (.bool (isF t), [], []) := by
  refine avl_Is_of ?_
  simp -implicitDefEqProofs only [ZS, ZT, Nat.reduceAdd]
  rw [callK_ok (by simp) (TFull_ok t ht)]
  unfold isF
  by_cases hc : checkF t = 0
  · have hf := check_formed hc
    cases hfl : fullF t with
    | false => simp -implicitDefEqProofs only [hc, Bool.and_false, Bool.false_and, ZS, ZT, Nat.reduceAdd]; exact endB_good rfl
    | true =>
      simp -implicitDefEqProofs only [hc, Bool.true_and, ZS, ZT, Nat.reduceAdd]
      rw [callK_ok (by simp) (List_ok t ht hn), if_pos hc]
      exact avl_loop t ht hf (nodesF t) hn (Nat.le_trans (dp_nodes t hf) hn) (nodesF t).length 0 _ (by omega)
  · simp -implicitDefEqProofs only [hc, Bool.false_and, ZS, ZT, Nat.reduceAdd]; exact endB_good rfl
end Go.Pm
