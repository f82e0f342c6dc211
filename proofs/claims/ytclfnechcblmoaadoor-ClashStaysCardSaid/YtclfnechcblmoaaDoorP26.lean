/- A part of the proof: what the functions of the program answer, as plain lists and numbers. -/
import Derived.Test.YtclfnechcblmoaaDoorP19
import Derived.Test.YtclfnechcblmoaaDoorP20
import Derived.Test.YtclfnechcblmoaaDoorP24
import Derived.Test.YtclfnechcblmoaaDoorP25
namespace Go.Pm
open Go.Proofs
set_option linter.unusedVariables false
set_option linter.unusedSimpArgs false
theorem rdeep_loop (t : Tre) (n : Int) (hn : 0 < n) (hn2 : n < 2^60) (hk : t.kids.length ≤ 2^50) (ih : ∀ k ∈ t.kids, ∀ n : Int, 0 ≤ n → n < 2^60 → EV C n_ref04_Deep [k.av, .int .i64 n] [] = some (.bool (deepF k n), [], [])) : ∀ (m i : Nat) (E : List Nat), i + m = t.kids.length →
    ref04_Deep_J5 0 (.int .i64 n) (.ptr 0 1 0 0) (.int .i64 (i : Int)) [.row 5 [t.av]] E = some (.bool ((t.kids.drop i).any fun k => deepF k (n - 1)), [], [])
  | 0, i, E, h => by
    refine ref04_Deep_J5_of ?_
    have e1 : ¬ ((i : Int) < (t.kids.length : Int)) := by omega
    have e2 : t.kids.drop i = [] := List.drop_eq_nil_of_le (by omega)
    simp -implicitDefEqProofs only [e1, e2, ZS, ZT, Nat.reduceAdd]
    exact endB_good rfl
  | m + 1, i, E, h => by
    refine ref04_Deep_J5_of ?_
    have hi : i < t.kids.length := by omega
    have e1 : ((i : Int) < (t.kids.length : Int)) := by omega
    have e2 : t.kids.drop i = t.kids[i] :: t.kids.drop (i + 1) := List.drop_eq_getElem_cons hi
    have e3 : IntKind.i64.wrap ((i : Int) + 1) = ((i + 1 : Nat) : Int) := w64 (by omega) (by omega)
    have e4 : IntKind.i64.wrap (n - 1) = n - 1 := by rw [wrap64] <;> omega
    simp -implicitDefEqProofs only [e1, e2, e4, sub_int, ixA_kids (List.getElem?_eq_getElem hi), ZS, ZT, Nat.reduceAdd]
    rw [callK_ok (by simp) (ih t.kids[i] (List.getElem_mem hi) (n - 1) (by omega) (by omega)), List.any_cons]
    cases hd : deepF t.kids[i] (n - 1) with
    | true => simp only [condK_t, Bool.true_or]; exact endB_good rfl
    | false =>
      simp only [condK_f, Bool.false_or, add_int, e3, Option.bind_some]
      exact rdeep_loop t n hn hn2 hk ih m (i + 1) _ (by omega)
theorem rDeep_ok (t : Tre) : t.ok → ∀ n : Int, 0 ≤ n → n < 2^60 → EV C n_ref04_Deep [t.av, .int .i64 n] [] = some (.bool (deepF t n), [], []) := by
  induction t using Tre.ind with
  | h t ih =>
    intro ht n h0 h1
    obtain ⟨_, _, _, hk, hks⟩ := (ok_eq t).1 ht
    have go : 0 < n ∨ t.kids.length = 0 → (t.isNode && decide (n < 1)) = false → ∀ E, ref04_Deep_J5 0 (.int .i64 n) (.ptr 0 1 0 0) (.int .i64 0) [.row 5 [t.av]] E = some (.bool (deepF t n), [], []) := fun hn hc E => by
      rw [deepF_eq, hc, Bool.false_or]
      by_cases hp : 0 < n
      · exact rdeep_loop t n hp h1 hk (fun k hk n h0 h1 => ih k hk (hks k hk) n h0 h1) t.kids.length 0 E (by omega)
      · have hz : t.kids.length = 0 := by omega
        refine ref04_Deep_J5_of ?_
        have hnil : t.kids = [] := List.length_eq_zero_iff.1 hz
        have e1 : ¬ ((0 : Int) < (t.kids.length : Int)) := by omega
        simp -implicitDefEqProofs only [e1, hnil, List.any_nil, ZS, ZT, Nat.reduceAdd]
        simp -implicitDefEqProofs only [Int.natCast_zero, Int.lt_irrefl, decide_false, condK_f, List.length_nil, Option.bind_some, ZS, Nat.reduceAdd]
        exact endB_good rfl
    have tt : t.isNode = true → n = 0 → deepF t n = true := fun h h2 => by rw [deepF_eq, h]; simp [h2]
    refine ref04_Deep_of ?_
    simp -implicitDefEqProofs only [ZS, ZT, Nat.reduceAdd]
    split
    · rename_i hk1
      have hn : t.isNode = true := by simp [Tre.isNode, hk1]
      split
      · rename_i h2; rw [tt hn h2]; exact endB_good rfl
      · rename_i h2; exact go (by omega) (by simp; intros; omega) _
    · rename_i hk1
      split
      · rename_i hk2
        have hn : t.isNode = true := by simp [Tre.isNode, hk2]
        split
        · rename_i h2; rw [tt hn h2]; exact endB_good rfl
        · rename_i h2; exact go (by omega) (by simp; intros; omega) _
      · rename_i hk2
        split
        · rename_i hk3
          have hn : t.isNode = true := by simp [Tre.isNode]; omega
          split
          · rename_i h2; rw [tt hn h2]; exact endB_good rfl
          · rename_i h2; exact go (by omega) (by simp; intros; omega) _
        · rename_i hk3
          exact go (by omega) (by simp [Tre.isNode, hk1, hk2]; omega) _
theorem rformed_loop (t : Tre) (hk : t.kids.length ≤ 2^50) (ih : ∀ k ∈ t.kids, EV C n_ref04_Formed [k.av] [] = some (.bool (formedF k), [], [])) : ∀ (m i : Nat) (b : Bool) (E : List Nat), i + m = t.kids.length →
    ref04_Formed_J16 0 (.ptr 0 1 0 0) (.int .i64 (t.kids.length : Int)) (.bool b) (.int .i64 (i : Int)) [.row 5 [t.av]] E = some (.bool (b && (t.kids.drop i).all formedF), [], [])
  | 0, i, b, E, h => by
    refine ref04_Formed_J16_of ?_
    have e1 : ¬ ((i : Int) < (t.kids.length : Int)) := by omega
    have e2 : t.kids.drop i = [] := List.drop_eq_nil_of_le (by omega)
    simp -implicitDefEqProofs only [e1, e2, ZS, ZT, Nat.reduceAdd, List.all_nil, Bool.and_true]
    exact endB_good rfl
  | m + 1, i, b, E, h => by
    refine ref04_Formed_J16_of ?_
    have hi : i < t.kids.length := by omega
    have e1 : ((i : Int) < (t.kids.length : Int)) := by omega
    have e2 : t.kids.drop i = t.kids[i] :: t.kids.drop (i + 1) := List.drop_eq_getElem_cons hi
    have e3 : IntKind.i64.wrap ((i : Int) + 1) = ((i + 1 : Nat) : Int) := w64 (by omega) (by omega)
    simp -implicitDefEqProofs only [e1, e2, ixA_kids (List.getElem?_eq_getElem hi), ZS, ZT, Nat.reduceAdd]
    cases b with
    | false => simp only [condK_f, Bool.false_and]; exact endB_good rfl
    | true =>
      simp only [condK_t]
      rw [callK_ok (by simp) (ih t.kids[i] (List.getElem_mem hi)), List.all_cons]
      simp only [add_int, e3, Option.bind_some, Bool.true_and]
      exact rformed_loop t hk ih m (i + 1) _ _ (by omega)
theorem rFormed_ok (t : Tre) : t.ok → EV C n_ref04_Formed [t.av] [] = some (.bool (formedF t), [], []) := by
  induction t using Tre.ind with
  | h t ih =>
    intro ht
    obtain ⟨ha, hb, hc, hk, hks⟩ := (ok_eq t).1 ht
    have fin : ∀ (b : Bool) (E : List Nat), formed1 t = b → ref04_Formed_J16 0 (.ptr 0 1 0 0) (.int .i64 (t.kids.length : Int)) (.bool b) (.int .i64 0) [.row 5 [t.av]] E = some (.bool (formedF t), [], []) := fun b E h => by
      rw [formedF_eq, h]
      exact rformed_loop t hk (fun k hk => ih k hk (hks k hk)) t.kids.length 0 b E (by omega)
    refine ref04_Formed_of ?_
    simp -implicitDefEqProofs only [ZS, ZT, Nat.reduceAdd]
    split
    · rename_i h0
      have f1 : formed1 t = decide (t.key.length + t.value.length + t.digest.length + t.kids.length = 0) := by simp only [formed1, h0, if_true]
      split
      · split
        · split
          · exact fin _ _ (by rw [f1]; exact dec_iff (by omega))
          · exact fin _ _ (by rw [f1]; simp only [decide_eq_false_iff_not]; omega)
        · exact fin _ _ (by rw [f1]; simp only [decide_eq_false_iff_not]; omega)
      · exact fin _ _ (by rw [f1]; simp only [decide_eq_false_iff_not]; omega)
    · rename_i h0
      split
      · rename_i h1
        have f1 : formed1 t = (decide (t.key.length ≤ 80) && (decide (t.value.length ≤ 1024) && (decide (t.digest.length = 0) && decide (t.kids.length = 2)))) := by
          simp only [formed1]; rw [if_neg h0, if_pos h1]
        split
        · split
          · split
            · refine fin _ _ ?_
              rw [f1, show decide (t.key.length ≤ 80) = true from decide_eq_true (by omega), show decide (t.value.length ≤ 1024) = true from decide_eq_true (by omega), show decide (t.digest.length = 0) = true from decide_eq_true (by omega)]
              exact dec_iff (by omega)
            · exact fin _ _ (by rw [f1]; simp only [Bool.and_eq_false_iff, decide_eq_false_iff_not]; omega)
          · exact fin _ _ (by rw [f1]; simp only [Bool.and_eq_false_iff, decide_eq_false_iff_not]; omega)
        · exact fin _ _ (by rw [f1]; simp only [Bool.and_eq_false_iff, decide_eq_false_iff_not]; omega)
      · rename_i h1
        split
        · rename_i h2
          have f1 : formed1 t = (decide (t.key.length ≤ 80) && (decide (t.value.length = 0) && decide (t.kids.length = 2))) := by
            simp only [formed1]; rw [if_neg h0, if_neg h1, if_pos h2]
          split
          · split
            · refine fin _ _ ?_
              rw [f1, show decide (t.key.length ≤ 80) = true from decide_eq_true (by omega), show decide (t.value.length = 0) = true from decide_eq_true (by omega)]
              exact dec_iff (by omega)
            · exact fin _ _ (by rw [f1]; simp only [Bool.and_eq_false_iff, decide_eq_false_iff_not]; omega)
          · exact fin _ _ (by rw [f1]; simp only [Bool.and_eq_false_iff, decide_eq_false_iff_not]; omega)
        · rename_i h2
          split
          · rename_i h3
            have f1 : formed1 t = decide (t.key.length + t.value.length + t.kids.length = 0) := by
              simp only [formed1]; rw [if_neg h0, if_neg h1, if_neg h2, if_pos h3]
            split
            · split
              · exact fin _ _ (by rw [f1]; exact dec_iff (by omega))
              · exact fin _ _ (by rw [f1]; simp only [decide_eq_false_iff_not]; omega)
            · exact fin _ _ (by rw [f1]; simp only [decide_eq_false_iff_not]; omega)
          · rename_i h3
            exact fin _ _ (by simp only [formed1]; rw [if_neg h0, if_neg h1, if_neg h2, if_neg h3])
theorem rCheck_ok (t : Tre) (ht : t.ok) : EV C n_ref04_Check [t.av] [] = some (.int .i64 (checkF t), [], []) := by
  refine ref04_Check_of ?_
  simp -implicitDefEqProofs only [ZS, ZT, Nat.reduceAdd]
  rw [callK_ok (by simp) (rDeep_ok t ht 64 (by decide) (by decide))]
  cases hd : deepF t 64 with
  | true => simp only [condK_t, checkF, hd, if_true]; exact endB_good rfl
  | false =>
    simp only [condK_f, checkF, hd, Bool.false_eq_true, if_false, ld_tr0, Option.bind_some]
    rw [callK_ok (by simp) (rFormed_ok t ht)]
    cases hf : formedF t with
    | true => simp only [not_bool, Bool.not_true, Option.bind_some, condK_f, if_true]; exact endB_good rfl
    | false => simp only [not_bool, Bool.not_false, Option.bind_some, condK_t, Bool.false_eq_true, if_false]; exact endB_good rfl
end Go.Pm
