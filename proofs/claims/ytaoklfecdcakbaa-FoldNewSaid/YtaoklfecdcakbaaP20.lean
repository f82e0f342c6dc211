/- A part of the proof: what the functions of the program answer, as plain lists and numbers. -/
import Derived.Test.YtaoklfecdcakbaaP10
import Derived.Test.YtaoklfecdcakbaaP15
import Derived.Test.YtaoklfecdcakbaaP16
import Derived.Test.YtaoklfecdcakbaaP19
namespace Go.Pm
open Go.Proofs
set_option linter.unusedVariables false
set_option linter.unusedSimpArgs false
theorem rdeep_loop (t : Tre) (n : Int) (hn : 0 < n) (hn2 : n < 2^60) (hk : t.kids.length ≤ 2^50) (ih : ∀ k ∈ t.kids, ∀ n : Int, 0 ≤ n → n < 2^60 → EV C n_ref04_Deep [k.av, .int .i64 n] [] = some (.bool (deepF k n), [], [])) : ∀ (m i : Nat) (E : List Nat), i + m = t.kids.length →
    ref04_Deep_J5 0 (.int .i64 n) (.ptr 0 1 0 0) (.int .i64 (i : Int)) [.row 5 [t.av]] E = some (.bool ((t.kids.drop i).any fun k => deepF k (n - 1)), [], [])
  | 0, i, E, h => by
    refine ref04_Deep_J5_of ?_
    have e1 : ¬ ((i : Int) < (t.kids.length : Int)) := by omega
    have e2 : t.kids.drop i = [] := List.drop_eq_nil_of_le (by omega)
    simp -implicitDefEqProofs only [e1, e2, ZS, ZT, Nat.reduceAdd]
    exact endB_good rfl
  | m + 1, i, E, h => by
    refine ref04_Deep_J5_of ?_
    have hi : i < t.kids.length := by omega
    have e1 : ((i : Int) < (t.kids.length : Int)) := by omega
    have e2 : t.kids.drop i = t.kids[i] :: t.kids.drop (i + 1) := List.drop_eq_getElem_cons hi
    have e3 : IntKind.i64.wrap ((i : Int) + 1) = ((i + 1 : Nat) : Int) := w64 (by omega) (by omega)
    have e4 : IntKind.i64.wrap (n - 1) = n - 1 := by rw [wrap64] <;> omega
    simp -implicitDefEqProofs only [e1, e2, e4, sub_int, ixA_kids (List.getElem?_eq_getElem hi), ZS, ZT, Nat.reduceAdd]
    rw [callK_ok (by simp) (ih t.kids[i] (List.getElem_mem hi) (n - 1) (by omega) (by omega)), List.any_cons]
    cases hd : deepF t.kids[i] (n - 1) with
    | true => simp only [condK_t, Bool.true_or]; exact endB_good rfl
    | false =>
      simp only [condK_f, Bool.false_or, add_int, e3, Option.bind_some]
      exact rdeep_loop t n hn hn2 hk ih m (i + 1) _ (by omega)
theorem rDeep_ok (t : Tre) : t.ok → ∀ n : Int, 0 ≤ n → n < 2^60 → EV C n_ref04_Deep [t.av, .int .i64 n] [] = some (.bool (deepF t n), [], []) := by
  induction t using Tre.ind with
  | h t ih =>
    intro ht n h0 h1
    obtain ⟨_, _, _, hk, hks⟩ := (ok_eq t).1 ht
    have go : 0 < n ∨ t.kids.length = 0 → (t.isNode && decide (n < 1)) = false → ∀ E, ref04_Deep_J5 0 (.int .i64 n) (.ptr 0 1 0 0) (.int .i64 0) [.row 5 [t.av]] E = some (.bool (deepF t n), [], []) := fun hn hc E => by
      rw [deepF_eq, hc, Bool.false_or]
      by_cases hp : 0 < n
      · exact rdeep_loop t n hp h1 hk (fun k hk n h0 h1 => ih k hk (hks k hk) n h0 h1) t.kids.length 0 E (by omega)
      · have hz : t.kids.length = 0 := by omega
        refine ref04_Deep_J5_of ?_
        have hnil : t.kids = [] := List.length_eq_zero_iff.1 hz
        have e1 : ¬ ((0 : Int) < (t.kids.length : Int)) := by omega
        simp -implicitDefEqProofs only [e1, hnil, List.any_nil, ZS, ZT, Nat.reduceAdd]
        simp -implicitDefEqProofs only [Int.natCast_zero, Int.lt_irrefl, decide_false, condK_f, List.length_nil, Option.bind_some, ZS, Nat.reduceAdd]
        exact endB_good rfl
    have tt : t.isNode = true → n = 0 → deepF t n = true := fun h h2 => by rw [deepF_eq, h]; simp [h2]
    refine ref04_Deep_of ?_
    simp -implicitDefEqProofs only [ZS, ZT, Nat.reduceAdd]
    split
    · rename_i hk1
      have hn : t.isNode = true := by simp [Tre.isNode, hk1]
      split
      · rename_i h2; rw [tt hn h2]; exact endB_good rfl
      · rename_i h2; exact go (by omega) (by simp; intros; omega) _
    · rename_i hk1
      split
      · rename_i hk2
        have hn : t.isNode = true := by simp [Tre.isNode, hk2]
        split
        · rename_i h2; rw [tt hn h2]; exact endB_good rfl
        · rename_i h2; exact go (by omega) (by simp; intros; omega) _
      · rename_i hk2
        split
        · rename_i hk3
          have hn : t.isNode = true := by simp [Tre.isNode]; omega
          split
          · rename_i h2; rw [tt hn h2]; exact endB_good rfl
          · rename_i h2; exact go (by omega) (by simp; intros; omega) _
        · rename_i hk3
          exact go (by omega) (by simp [Tre.isNode, hk1, hk2]; omega) _
theorem rformed_loop (t : Tre) (hk : t.kids.length ≤ 2^50) (ih : ∀ k ∈ t.kids, EV C n_ref04_Formed [k.av] [] = some (.bool (formedF k), [], [])) : ∀ (m i : Nat) (b : Bool) (E : List Nat), i + m = t.kids.length →
    ref04_Formed_J16 0 (.ptr 0 1 0 0) (.int .i64 (t.kids.length : Int)) (.bool b) (.int .i64 (i : Int)) [.row 5 [t.av]] E = some (.bool (b && (t.kids.drop i).all formedF), [], [])
  | 0, i, b, E, h => by
    refine ref04_Formed_J16_of ?_
    have e1 : ¬ ((i : Int) < (t.kids.length : Int)) := by omega
    have e2 : t.kids.drop i = [] := List.drop_eq_nil_of_le (by omega)
    simp -implicitDefEqProofs only [e1, e2, ZS, ZT, Nat.reduceAdd, List.all_nil, Bool.and_true]
    exact endB_good rfl
  | m + 1, i, b, E, h => by
    refine ref04_Formed_J16_of ?_
    have hi : i < t.kids.length := by omega
    have e1 : ((i : Int) < (t.kids.length : Int)) := by omega
    have e2 : t.kids.drop i = t.kids[i] :: t.kids.drop (i + 1) := List.drop_eq_getElem_cons hi
    have e3 : IntKind.i64.wrap ((i : Int) + 1) = ((i + 1 : Nat) : Int) := w64 (by omega) (by omega)
    simp -implicitDefEqProofs only [e1, e2, ixA_kids (List.getElem?_eq_getElem hi), ZS, ZT, Nat.reduceAdd]
    cases b with
    | false => simp only [condK_f, Bool.false_and]; exact endB_good rfl
    | true =>
      simp only [condK_t]
      rw [callK_ok (by simp) (ih t.kids[i] (List.getElem_mem hi)), List.all_cons]
      simp only [add_int, e3, Option.bind_some, Bool.true_and]
      exact rformed_loop t hk ih m (i + 1) _ _ (by omega)
theorem rFormed_ok (t : Tre) : t.ok → EV C n_ref04_Formed [t.av] [] = some (.bool (formedF t), [], []) := by
  induction t using Tre.ind with
  | h t ih =>
    intro ht
    obtain ⟨ha, hb, hc, hk, hks⟩ := (ok_eq t).1 ht
    have fin : ∀ (b : Bool) (E : List Nat), formed1 t = b → ref04_Formed_J16 0 (.ptr 0 1 0 0) (.int .i64 (t.kids.length : Int)) (.bool b) (.int .i64 0) [.row 5 [t.av]] E = some (.bool (formedF t), [], []) := fun b E h => by
      rw [formedF_eq, h]
      exact rformed_loop t hk (fun k hk => ih k hk (hks k hk)) t.kids.length 0 b E (by omega)
    refine ref04_Formed_of ?_
    simp -implicitDefEqProofs only [ZS, ZT, Nat.reduceAdd]
    split
    · rename_i h0
      have f1 : formed1 t = decide (t.key.length + t.value.length + t.digest.length + t.kids.length = 0) := by simp only [formed1, h0, if_true]
      split
      · split
        · split
          · exact fin _ _ (by rw [f1]; exact dec_iff (by omega))
          · exact fin _ _ (by rw [f1]; simp only [decide_eq_false_iff_not]; omega)
        · exact fin _ _ (by rw [f1]; simp only [decide_eq_false_iff_not]; omega)
      · exact fin _ _ (by rw [f1]; simp only [decide_eq_false_iff_not]; omega)
    · rename_i h0
      split
      · rename_i h1
        have f1 : formed1 t = (decide (t.key.length ≤ 80) && (decide (t.value.length ≤ 1024) && (decide (t.digest.length = 0) && decide (t.kids.length = 2)))) := by
          simp only [formed1]; rw [if_neg h0, if_pos h1]
        split
        · split
          · split
            · refine fin _ _ ?_
              rw [f1, show decide (t.key.length ≤ 80) = true from decide_eq_true (by omega), show decide (t.value.length ≤ 1024) = true from decide_eq_true (by omega), show decide (t.digest.length = 0) = true from decide_eq_true (by omega)]
              exact dec_iff (by omega)
            · exact fin _ _ (by rw [f1]; simp only [Bool.and_eq_false_iff, decide_eq_false_iff_not]; omega)
          · exact fin _ _ (by rw [f1]; simp only [Bool.and_eq_false_iff, decide_eq_false_iff_not]; omega)
        · exact fin _ _ (by rw [f1]; simp only [Bool.and_eq_false_iff, decide_eq_false_iff_not]; omega)
      · rename_i h1
        split
        · rename_i h2
          have f1 : formed1 t = (decide (t.key.length ≤ 80) && (decide (t.value.length = 0) && decide (t.kids.length = 2))) := by
            simp only [formed1]; rw [if_neg h0, if_neg h1, if_pos h2]
          split
          · split
            · refine fin _ _ ?_
              rw [f1, show decide (t.key.length ≤ 80) = true from decide_eq_true (by omega), show decide (t.value.length = 0) = true from decide_eq_true (by omega)]
              exact dec_iff (by omega)
            · exact fin _ _ (by rw [f1]; simp only [Bool.and_eq_false_iff, decide_eq_false_iff_not]; omega)
          · exact fin _ _ (by rw [f1]; simp only [Bool.and_eq_false_iff, decide_eq_false_iff_not]; omega)
        · rename_i h2
          split
          · rename_i h3
            have f1 : formed1 t = decide (t.key.length + t.value.length + t.kids.length = 0) := by
              simp only [formed1]; rw [if_neg h0, if_neg h1, if_neg h2, if_pos h3]
            split
            · split
              · exact fin _ _ (by rw [f1]; exact dec_iff (by omega))
              · exact fin _ _ (by rw [f1]; simp only [decide_eq_false_iff_not]; omega)
            · exact fin _ _ (by rw [f1]; simp only [decide_eq_false_iff_not]; omega)
          · rename_i h3
            exact fin _ _ (by simp only [formed1]; rw [if_neg h0, if_neg h1, if_neg h2, if_neg h3])
theorem rCheck_ok (t : Tre) (ht : t.ok) : EV C n_ref04_Check [t.av] [] = some (.int .i64 (checkF t), [], []) := by
  refine ref04_Check_of ?_
  simp -implicitDefEqProofs only [ZS, ZT, Nat.reduceAdd]
  rw [callK_ok (by simp) (rDeep_ok t ht 64 (by decide) (by decide))]
  cases hd : deepF t 64 with
  | true => simp only [condK_t, checkF, hd, if_true]; exact endB_good rfl
  | false =>
    simp only [condK_f, checkF, hd, Bool.false_eq_true, if_false, ld_tr0, Option.bind_some]
    rw [callK_ok (by simp) (rFormed_ok t ht)]
    cases hf : formedF t with
    | true => simp only [not_bool, Bool.not_true, Option.bind_some, condK_f, if_true]; exact endB_good rfl
    | false => simp only [not_bool, Bool.not_false, Option.bind_some, condK_t, Bool.false_eq_true, if_false]; exact endB_good rfl
end Go.Pm
namespace Go.Pm
open Go.Proofs
set_option linter.unusedVariables false
set_option linter.unusedSimpArgs false
set_option maxRecDepth 100000
theorem l3_s0 {x0 x1 x2 a1 a2 a3 a4 a6 a7 a8 a9 a10 a11 a12 a13 a14 a15 a16 a17 : AV} {H H16 H18 H19 : List AObj} {E E16 E18 E19 : List Nat}  :
    stA Try.prog C.G (EV C) (C.hint 78) 3 (opsOf Try.f78 3) ⟨[x0, x1, x2, a1, a2, a3, a4, (.bool false), a6, a7, a8, a9, a10, a11, (.tup []), (.tup []), (.tup []), (.tup []), (.tup []), (.tup []), (.tup []), (.tup []), (.tup []), (.tup []), (.tup []), (.tup [])], H, E⟩ 0 = some ⟨[x0, x1, x2, a1, a2, a3, a4, (.bool false), a6, a7, a8, a9, a10, a11, (.tup []), (.tup []), (.tup []), (.tup []), (.tup []), (.tup []), (.tup []), (.tup []), (.tup []), (.tup []), (.tup []), (.tup [])], H, E⟩ := by
  refine stA_of ?_
  refine Eq.trans (b := (some ⟨[x0, x1, x2, a1, a2, a3, a4, (.bool false), a6, a7, a8, a9, a10, a11, (.tup []), (.tup []), (.tup []), (.tup []), (.tup []), (.tup []), (.tup []), (.tup []), (.tup []), (.tup []), (.tup []), (.tup [])], H, E⟩)) (by kernel_rfl) ?_
  rfl

theorem l3_s1 {x0 x1 x2 a1 a2 a3 a4 a6 a7 a8 a9 a10 a11 a12 a13 a14 a15 a16 a17 : AV} {H H16 H18 H19 : List AObj} {E E16 E18 E19 : List Nat} (f0 : loadA false 1 x2 H = some a12) :
    stA Try.prog C.G (EV C) (C.hint 78) 3 (opsOf Try.f78 3) ⟨[x0, x1, x2, a1, a2, a3, a4, (.bool false), a6, a7, a8, a9, a10, a11, (.tup []), (.tup []), (.tup []), (.tup []), (.tup []), (.tup []), (.tup []), (.tup []), (.tup []), (.tup []), (.tup []), (.tup [])], H, E⟩ 1 = some ⟨[x0, x1, x2, a1, a2, a3, a4, (.bool false), a6, a7, a8, a9, a10, a11, a12, (.tup []), (.tup []), (.tup []), (.tup []), (.tup []), (.tup []), (.tup []), (.tup []), (.tup []), (.tup []), (.tup [])], H, E⟩ := by
  refine stA_of ?_
  refine Eq.trans (b := ((loadA false 1 x2 H).bind fun a12 =>
    some ⟨[x0, x1, x2, a1, a2, a3, a4, (.bool false), a6, a7, a8, a9, a10, a11, a12, (.tup []), (.tup []), (.tup []), (.tup []), (.tup []), (.tup []), (.tup []), (.tup []), (.tup []), (.tup []), (.tup [])], H, E⟩)) (by kernel_rfl) ?_
  simp only [f0, Option.bind_some, List.nil_append]

theorem l3_s2 {x0 x1 x2 a1 a2 a3 a4 a6 a7 a8 a9 a10 a11 a12 a13 a14 a15 a16 a17 : AV} {H H16 H18 H19 : List AObj} {E E16 E18 E19 : List Nat} (f0 : loadA false 1 x2 H = some a12) (f1 : loadA true 5 a1 H = some a13) :
    stA Try.prog C.G (EV C) (C.hint 78) 3 (opsOf Try.f78 3) ⟨[x0, x1, x2, a1, a2, a3, a4, (.bool false), a6, a7, a8, a9, a10, a11, (.tup []), (.tup []), (.tup []), (.tup []), (.tup []), (.tup []), (.tup []), (.tup []), (.tup []), (.tup []), (.tup []), (.tup [])], H, E⟩ 2 = some ⟨[x0, x1, x2, a1, a2, a3, a4, (.bool false), a6, a7, a8, a9, a10, a11, a12, a13, (.tup []), (.tup []), (.tup []), (.tup []), (.tup []), (.tup []), (.tup []), (.tup []), (.tup []), (.tup [])], H, E⟩ := by
  refine stA_of ?_
  refine Eq.trans (b := ((loadA false 1 x2 H).bind fun a12 =>
    (loadA true 5 a1 H).bind fun a13 =>
    some ⟨[x0, x1, x2, a1, a2, a3, a4, (.bool false), a6, a7, a8, a9, a10, a11, a12, a13, (.tup []), (.tup []), (.tup []), (.tup []), (.tup []), (.tup []), (.tup []), (.tup []), (.tup []), (.tup [])], H, E⟩)) (by kernel_rfl) ?_
  simp only [f0, f1, Option.bind_some, List.nil_append]

theorem l3_s3 {x0 x1 x2 a1 a2 a3 a4 a6 a7 a8 a9 a10 a11 a12 a13 a14 a15 a16 a17 : AV} {H H16 H18 H19 : List AObj} {E E16 E18 E19 : List Nat} (f0 : loadA false 1 x2 H = some a12) (f1 : loadA true 5 a1 H = some a13) (f2 : lenV a12 H = some a14) :
    stA Try.prog C.G (EV C) (C.hint 78) 3 (opsOf Try.f78 3) ⟨[x0, x1, x2, a1, a2, a3, a4, (.bool false), a6, a7, a8, a9, a10, a11, (.tup []), (.tup []), (.tup []), (.tup []), (.tup []), (.tup []), (.tup []), (.tup []), (.tup []), (.tup []), (.tup []), (.tup [])], H, E⟩ 3 = some ⟨[x0, x1, x2, a1, a2, a3, a4, (.bool false), a6, a7, a8, a9, a10, a11, a12, a13, a14, (.tup []), (.tup []), (.tup []), (.tup []), (.tup []), (.tup []), (.tup []), (.tup []), (.tup [])], H, E⟩ := by
  refine stA_of ?_
  refine Eq.trans (b := ((loadA false 1 x2 H).bind fun a12 =>
    (loadA true 5 a1 H).bind fun a13 =>
    (lenV a12 H).bind fun a14 =>
    some ⟨[x0, x1, x2, a1, a2, a3, a4, (.bool false), a6, a7, a8, a9, a10, a11, a12, a13, a14, (.tup []), (.tup []), (.tup []), (.tup []), (.tup []), (.tup []), (.tup []), (.tup []), (.tup [])], H, E⟩)) (by kernel_rfl) ?_
  simp only [f0, f1, f2, Option.bind_some, List.nil_append]

theorem l3_s4 {x0 x1 x2 a1 a2 a3 a4 a6 a7 a8 a9 a10 a11 a12 a13 a14 a15 a16 a17 : AV} {H H16 H18 H19 : List AObj} {E E16 E18 E19 : List Nat} (f0 : loadA false 1 x2 H = some a12) (f1 : loadA true 5 a1 H = some a13) (f2 : lenV a12 H = some a14) (f3 : ∀ K : AV → List AObj → List Nat → Option St, litK 5 1 (.agg [(.int .i64 0), .nils, .nils, .nils, .nils]) [(0, (.agg [(.int .i64 0), .nils, .nils, .nils, .nils]))] H K = K a15 H []) :
    stA Try.prog C.G (EV C) (C.hint 78) 3 (opsOf Try.f78 3) ⟨[x0, x1, x2, a1, a2, a3, a4, (.bool false), a6, a7, a8, a9, a10, a11, (.tup []), (.tup []), (.tup []), (.tup []), (.tup []), (.tup []), (.tup []), (.tup []), (.tup []), (.tup []), (.tup []), (.tup [])], H, E⟩ 4 = some ⟨[x0, x1, x2, a1, a2, a3, a4, (.bool false), a6, a7, a8, a9, a10, a11, a12, a13, a14, a15, (.tup []), (.tup []), (.tup []), (.tup []), (.tup []), (.tup []), (.tup []), (.tup [])], H, E⟩ := by
  refine stA_of ?_
  refine Eq.trans (b := ((loadA false 1 x2 H).bind fun a12 =>
    (loadA true 5 a1 H).bind fun a13 =>
    (lenV a12 H).bind fun a14 =>
    litK 5 1 (.agg [(.int .i64 0), .nils, .nils, .nils, .nils]) [(0, (.agg [(.int .i64 0), .nils, .nils, .nils, .nils]))] H fun a15 H15 E15 =>
    some ⟨[x0, x1, x2, a1, a2, a3, a4, (.bool false), a6, a7, a8, a9, a10, a11, a12, a13, a14, a15, (.tup []), (.tup []), (.tup []), (.tup []), (.tup []), (.tup []), (.tup []), (.tup [])], H15, (E15 ++ E)⟩)) (by kernel_rfl) ?_
  simp only [f0, f1, f2, f3, Option.bind_some, List.nil_append]

theorem l3_s5 {x0 x1 x2 a1 a2 a3 a4 a6 a7 a8 a9 a10 a11 a12 a13 a14 a15 a16 a17 : AV} {H H16 H18 H19 : List AObj} {E E16 E18 E19 : List Nat} (f0 : loadA false 1 x2 H = some a12) (f1 : loadA true 5 a1 H = some a13) (f2 : lenV a12 H = some a14) (f3 : ∀ K : AV → List AObj → List Nat → Option St, litK 5 1 (.agg [(.int .i64 0), .nils, .nils, .nils, .nils]) [(0, (.agg [(.int .i64 0), .nils, .nils, .nils, .nils]))] H K = K a15 H []) (f4 : ∀ K : AV → List AObj → List Nat → Option St, appK 5 104 a12 a15 H K = K a16 H16 E16) :
    stA Try.prog C.G (EV C) (C.hint 78) 3 (opsOf Try.f78 3) ⟨[x0, x1, x2, a1, a2, a3, a4, (.bool false), a6, a7, a8, a9, a10, a11, (.tup []), (.tup []), (.tup []), (.tup []), (.tup []), (.tup []), (.tup []), (.tup []), (.tup []), (.tup []), (.tup []), (.tup [])], H, E⟩ 5 = some ⟨[x0, x1, x2, a1, a2, a3, a4, (.bool false), a6, a7, a8, a9, a10, a11, a12, a13, a14, a15, a16, (.tup []), (.tup []), (.tup []), (.tup []), (.tup []), (.tup []), (.tup [])], H16, (E16 ++ E)⟩ := by
  refine stA_of ?_
  refine Eq.trans (b := ((loadA false 1 x2 H).bind fun a12 =>
    (loadA true 5 a1 H).bind fun a13 =>
    (lenV a12 H).bind fun a14 =>
    litK 5 1 (.agg [(.int .i64 0), .nils, .nils, .nils, .nils]) [(0, (.agg [(.int .i64 0), .nils, .nils, .nils, .nils]))] H fun a15 H15 E15 =>
    appK 5 104 a12 a15 H15 fun a16 H16 E16 =>
    some ⟨[x0, x1, x2, a1, a2, a3, a4, (.bool false), a6, a7, a8, a9, a10, a11, a12, a13, a14, a15, a16, (.tup []), (.tup []), (.tup []), (.tup []), (.tup []), (.tup []), (.tup [])], H16, (E16 ++ (E15 ++ E))⟩)) (by kernel_rfl) ?_
  simp only [f0, f1, f2, f3, f4, Option.bind_some, List.nil_append]

theorem l3_s6 {x0 x1 x2 a1 a2 a3 a4 a6 a7 a8 a9 a10 a11 a12 a13 a14 a15 a16 a17 : AV} {H H16 H18 H19 : List AObj} {E E16 E18 E19 : List Nat} (f0 : loadA false 1 x2 H = some a12) (f1 : loadA true 5 a1 H = some a13) (f2 : lenV a12 H = some a14) (f3 : ∀ K : AV → List AObj → List Nat → Option St, litK 5 1 (.agg [(.int .i64 0), .nils, .nils, .nils, .nils]) [(0, (.agg [(.int .i64 0), .nils, .nils, .nils, .nils]))] H K = K a15 H []) (f4 : ∀ K : AV → List AObj → List Nat → Option St, appK 5 104 a12 a15 H K = K a16 H16 E16) (f5 : ixA 5 a16 a14 H16 = some a17) :
    stA Try.prog C.G (EV C) (C.hint 78) 3 (opsOf Try.f78 3) ⟨[x0, x1, x2, a1, a2, a3, a4, (.bool false), a6, a7, a8, a9, a10, a11, (.tup []), (.tup []), (.tup []), (.tup []), (.tup []), (.tup []), (.tup []), (.tup []), (.tup []), (.tup []), (.tup []), (.tup [])], H, E⟩ 6 = some ⟨[x0, x1, x2, a1, a2, a3, a4, (.bool false), a6, a7, a8, a9, a10, a11, a12, a13, a14, a15, a16, a17, (.tup []), (.tup []), (.tup []), (.tup []), (.tup []), (.tup [])], H16, (E16 ++ E)⟩ := by
  refine stA_of ?_
  refine Eq.trans (b := ((loadA false 1 x2 H).bind fun a12 =>
    (loadA true 5 a1 H).bind fun a13 =>
    (lenV a12 H).bind fun a14 =>
    litK 5 1 (.agg [(.int .i64 0), .nils, .nils, .nils, .nils]) [(0, (.agg [(.int .i64 0), .nils, .nils, .nils, .nils]))] H fun a15 H15 E15 =>
    appK 5 104 a12 a15 H15 fun a16 H16 E16 =>
    (ixA 5 a16 a14 H16).bind fun a17 =>
    some ⟨[x0, x1, x2, a1, a2, a3, a4, (.bool false), a6, a7, a8, a9, a10, a11, a12, a13, a14, a15, a16, a17, (.tup []), (.tup []), (.tup []), (.tup []), (.tup []), (.tup [])], H16, (E16 ++ (E15 ++ E))⟩)) (by kernel_rfl) ?_
  simp only [f0, f1, f2, f3, f4, f5, Option.bind_some, List.nil_append]

theorem l3_s7 {x0 x1 x2 a1 a2 a3 a4 a6 a7 a8 a9 a10 a11 a12 a13 a14 a15 a16 a17 : AV} {H H16 H18 H19 : List AObj} {E E16 E18 E19 : List Nat} (f0 : loadA false 1 x2 H = some a12) (f1 : loadA true 5 a1 H = some a13) (f2 : lenV a12 H = some a14) (f3 : ∀ K : AV → List AObj → List Nat → Option St, litK 5 1 (.agg [(.int .i64 0), .nils, .nils, .nils, .nils]) [(0, (.agg [(.int .i64 0), .nils, .nils, .nils, .nils]))] H K = K a15 H []) (f4 : ∀ K : AV → List AObj → List Nat → Option St, appK 5 104 a12 a15 H K = K a16 H16 E16) (f5 : ixA 5 a16 a14 H16 = some a17) (f6 : ∀ K : List AObj → List Nat → Option St, stoK 5 a17 a13 H16 K = K H18 E18) :
    stA Try.prog C.G (EV C) (C.hint 78) 3 (opsOf Try.f78 3) ⟨[x0, x1, x2, a1, a2, a3, a4, (.bool false), a6, a7, a8, a9, a10, a11, (.tup []), (.tup []), (.tup []), (.tup []), (.tup []), (.tup []), (.tup []), (.tup []), (.tup []), (.tup []), (.tup []), (.tup [])], H, E⟩ 7 = some ⟨[x0, x1, x2, a1, a2, a3, a4, (.bool false), a6, a7, a8, a9, a10, a11, a12, a13, a14, a15, a16, a17, (.tup []), (.tup []), (.tup []), (.tup []), (.tup []), (.tup [])], H18, (E18 ++ (E16 ++ E))⟩ := by
  refine stA_of ?_
  refine Eq.trans (b := ((loadA false 1 x2 H).bind fun a12 =>
    (loadA true 5 a1 H).bind fun a13 =>
    (lenV a12 H).bind fun a14 =>
    litK 5 1 (.agg [(.int .i64 0), .nils, .nils, .nils, .nils]) [(0, (.agg [(.int .i64 0), .nils, .nils, .nils, .nils]))] H fun a15 H15 E15 =>
    appK 5 104 a12 a15 H15 fun a16 H16 E16 =>
    (ixA 5 a16 a14 H16).bind fun a17 =>
    stoK 5 a17 a13 H16 fun H18 E18 =>
    some ⟨[x0, x1, x2, a1, a2, a3, a4, (.bool false), a6, a7, a8, a9, a10, a11, a12, a13, a14, a15, a16, a17, (.tup []), (.tup []), (.tup []), (.tup []), (.tup []), (.tup [])], H18, (E18 ++ (E16 ++ (E15 ++ E)))⟩)) (by kernel_rfl) ?_
  simp only [f0, f1, f2, f3, f4, f5, f6, Option.bind_some, List.nil_append]

theorem l3_s8 {x0 x1 x2 a1 a2 a3 a4 a6 a7 a8 a9 a10 a11 a12 a13 a14 a15 a16 a17 : AV} {H H16 H18 H19 : List AObj} {E E16 E18 E19 : List Nat} (f0 : loadA false 1 x2 H = some a12) (f1 : loadA true 5 a1 H = some a13) (f2 : lenV a12 H = some a14) (f3 : ∀ K : AV → List AObj → List Nat → Option St, litK 5 1 (.agg [(.int .i64 0), .nils, .nils, .nils, .nils]) [(0, (.agg [(.int .i64 0), .nils, .nils, .nils, .nils]))] H K = K a15 H []) (f4 : ∀ K : AV → List AObj → List Nat → Option St, appK 5 104 a12 a15 H K = K a16 H16 E16) (f5 : ixA 5 a16 a14 H16 = some a17) (f6 : ∀ K : List AObj → List Nat → Option St, stoK 5 a17 a13 H16 K = K H18 E18) (f7 : ∀ K : List AObj → List Nat → Option St, stoK 1 x2 a16 H18 K = K H19 E19) :
    stA Try.prog C.G (EV C) (C.hint 78) 3 (opsOf Try.f78 3) ⟨[x0, x1, x2, a1, a2, a3, a4, (.bool false), a6, a7, a8, a9, a10, a11, (.tup []), (.tup []), (.tup []), (.tup []), (.tup []), (.tup []), (.tup []), (.tup []), (.tup []), (.tup []), (.tup []), (.tup [])], H, E⟩ 8 = some ⟨[x0, x1, x2, a1, a2, a3, a4, (.bool false), a6, a7, a8, a9, a10, a11, a12, a13, a14, a15, a16, a17, (.tup []), (.tup []), (.tup []), (.tup []), (.tup []), (.tup [])], H19, (E19 ++ (E18 ++ (E16 ++ E)))⟩ := by
  refine stA_of ?_
  refine Eq.trans (b := ((loadA false 1 x2 H).bind fun a12 =>
    (loadA true 5 a1 H).bind fun a13 =>
    (lenV a12 H).bind fun a14 =>
    litK 5 1 (.agg [(.int .i64 0), .nils, .nils, .nils, .nils]) [(0, (.agg [(.int .i64 0), .nils, .nils, .nils, .nils]))] H fun a15 H15 E15 =>
    appK 5 104 a12 a15 H15 fun a16 H16 E16 =>
    (ixA 5 a16 a14 H16).bind fun a17 =>
    stoK 5 a17 a13 H16 fun H18 E18 =>
    stoK 1 x2 a16 H18 fun H19 E19 =>
    some ⟨[x0, x1, x2, a1, a2, a3, a4, (.bool false), a6, a7, a8, a9, a10, a11, a12, a13, a14, a15, a16, a17, (.tup []), (.tup []), (.tup []), (.tup []), (.tup []), (.tup [])], H19, (E19 ++ (E18 ++ (E16 ++ (E15 ++ E))))⟩)) (by kernel_rfl) ?_
  simp only [f0, f1, f2, f3, f4, f5, f6, f7, Option.bind_some, List.nil_append]
theorem l3_swap {x0 x1 x2 a1 a2 a3 a4 a6 a7 a8 a9 a10 a11 a12 a13 a14 a15 a16 a17 : AV} {H H16 H18 H19 Hm : List AObj} {E E16 E19 : List Nat} (f0 : loadA false 1 x2 H = some a12) (f1 : loadA true 5 a1 H = some a13) (f2 : lenV a12 H = some a14) (f3 : ∀ K : AV → List AObj → List Nat → Option St, litK 5 1 (.agg [(.int .i64 0), .nils, .nils, .nils, .nils]) [(0, (.agg [(.int .i64 0), .nils, .nils, .nils, .nils]))] H K = K a15 H []) (f4 : ∀ K : AV → List AObj → List Nat → Option St, appK 5 104 a12 a15 H K = K a16 H16 E16) (f5 : ixA 5 a16 a14 H16 = some a17) (f6 : ∀ K : List AObj → List Nat → Option St, stoK 5 a17 a13 H16 K = K H18 []) (f7 : ∀ K : List AObj → List Nat → Option St, stoK 1 x2 a16 H18 K = K H19 E19) (g5 : ixA 5 a16 a14 H19 = some a17) (g5' : ixA 5 a16 a14 Hm = some a17) (g7 : ∀ K : AV → List AObj → List Nat → Option R3, (stoK 1 x2 a16 H16 fun H E => K (.tup []) H E) = K (.tup []) Hm E19) (g6 : ∀ K : AV → List AObj → List Nat → Option R3, (stoK 5 a17 a13 Hm fun H E => K (.tup []) H E) = K (.tup []) H19 [])
    (f6r : ∀ K : List AObj → List Nat → Option R3, stoK 5 a17 a13 H16 K = K H18 []) (f7r : ∀ K : List AObj → List Nat → Option R3, stoK 1 x2 a16 H18 K = K H19 E19) (f3d : litD 5 1 (.agg [(.int .i64 0), .nils, .nils, .nils, .nils]) [(0, (.agg [(.int .i64 0), .nils, .nils, .nils, .nils]))] H = some a15) :
    SwapOk Try.prog C.G (EV C) (C.hint 78) 3 (opsOf Try.f78 3) ⟨[x0, x1, x2, a1, a2, a3, a4, (.bool false), a6, a7, a8, a9, a10, a11, (.tup []), (.tup []), (.tup []), (.tup []), (.tup []), (.tup []), (.tup []), (.tup []), (.tup []), (.tup []), (.tup []), (.tup [])], H, E⟩ := by
  have sz : (opsOf Try.f78 3).size = 8 := by kernel_rfl
  have o0 : (opsOf Try.f78 3)[0]? = some ((opsOf Try.f78 3)[0]'(by rw [sz]; decide)) := Array.getElem?_eq_getElem _
  have o1 : (opsOf Try.f78 3)[1]? = some ((opsOf Try.f78 3)[1]'(by rw [sz]; decide)) := Array.getElem?_eq_getElem _
  have o2 : (opsOf Try.f78 3)[2]? = some ((opsOf Try.f78 3)[2]'(by rw [sz]; decide)) := Array.getElem?_eq_getElem _
  have o3 : (opsOf Try.f78 3)[3]? = some ((opsOf Try.f78 3)[3]'(by rw [sz]; decide)) := Array.getElem?_eq_getElem _
  have o4 : (opsOf Try.f78 3)[4]? = some ((opsOf Try.f78 3)[4]'(by rw [sz]; decide)) := Array.getElem?_eq_getElem _
  have o5 : (opsOf Try.f78 3)[5]? = some ((opsOf Try.f78 3)[5]'(by rw [sz]; decide)) := Array.getElem?_eq_getElem _
  have o6 : (opsOf Try.f78 3)[6]? = some ((opsOf Try.f78 3)[6]'(by rw [sz]; decide)) := Array.getElem?_eq_getElem _
  have o7 : (opsOf Try.f78 3)[7]? = some ((opsOf Try.f78 3)[7]'(by rw [sz]; decide)) := Array.getElem?_eq_getElem _
  have s0 := l3_s0 (x0 := x0) (x1 := x1) (x2 := x2) (a1 := a1) (a2 := a2) (a3 := a3) (a4 := a4) (a6 := a6) (a7 := a7) (a8 := a8) (a9 := a9) (a10 := a10) (a11 := a11) (a12 := a12) (a13 := a13) (a14 := a14) (a15 := a15) (a16 := a16) (a17 := a17) (H := H) (H16 := H16) (H18 := H18) (H19 := H19) (E := E) (E16 := E16) (E19 := E19) (E18 := [])
  have s1 := l3_s1 (x0 := x0) (x1 := x1) (x2 := x2) (a1 := a1) (a2 := a2) (a3 := a3) (a4 := a4) (a6 := a6) (a7 := a7) (a8 := a8) (a9 := a9) (a10 := a10) (a11 := a11) (a12 := a12) (a13 := a13) (a14 := a14) (a15 := a15) (a16 := a16) (a17 := a17) (H := H) (H16 := H16) (H18 := H18) (H19 := H19) (E := E) (E16 := E16) (E19 := E19) (E18 := []) f0
  have s2 := l3_s2 (x0 := x0) (x1 := x1) (x2 := x2) (a1 := a1) (a2 := a2) (a3 := a3) (a4 := a4) (a6 := a6) (a7 := a7) (a8 := a8) (a9 := a9) (a10 := a10) (a11 := a11) (a12 := a12) (a13 := a13) (a14 := a14) (a15 := a15) (a16 := a16) (a17 := a17) (H := H) (H16 := H16) (H18 := H18) (H19 := H19) (E := E) (E16 := E16) (E19 := E19) (E18 := []) f0 f1
  have s3 := l3_s3 (x0 := x0) (x1 := x1) (x2 := x2) (a1 := a1) (a2 := a2) (a3 := a3) (a4 := a4) (a6 := a6) (a7 := a7) (a8 := a8) (a9 := a9) (a10 := a10) (a11 := a11) (a12 := a12) (a13 := a13) (a14 := a14) (a15 := a15) (a16 := a16) (a17 := a17) (H := H) (H16 := H16) (H18 := H18) (H19 := H19) (E := E) (E16 := E16) (E19 := E19) (E18 := []) f0 f1 f2
  have s4 := l3_s4 (x0 := x0) (x1 := x1) (x2 := x2) (a1 := a1) (a2 := a2) (a3 := a3) (a4 := a4) (a6 := a6) (a7 := a7) (a8 := a8) (a9 := a9) (a10 := a10) (a11 := a11) (a12 := a12) (a13 := a13) (a14 := a14) (a15 := a15) (a16 := a16) (a17 := a17) (H := H) (H16 := H16) (H18 := H18) (H19 := H19) (E := E) (E16 := E16) (E19 := E19) (E18 := []) f0 f1 f2 f3
  have s5 := l3_s5 (x0 := x0) (x1 := x1) (x2 := x2) (a1 := a1) (a2 := a2) (a3 := a3) (a4 := a4) (a6 := a6) (a7 := a7) (a8 := a8) (a9 := a9) (a10 := a10) (a11 := a11) (a12 := a12) (a13 := a13) (a14 := a14) (a15 := a15) (a16 := a16) (a17 := a17) (H := H) (H16 := H16) (H18 := H18) (H19 := H19) (E := E) (E16 := E16) (E19 := E19) (E18 := []) f0 f1 f2 f3 f4
  have s6 := l3_s6 (x0 := x0) (x1 := x1) (x2 := x2) (a1 := a1) (a2 := a2) (a3 := a3) (a4 := a4) (a6 := a6) (a7 := a7) (a8 := a8) (a9 := a9) (a10 := a10) (a11 := a11) (a12 := a12) (a13 := a13) (a14 := a14) (a15 := a15) (a16 := a16) (a17 := a17) (H := H) (H16 := H16) (H18 := H18) (H19 := H19) (E := E) (E16 := E16) (E19 := E19) (E18 := []) f0 f1 f2 f3 f4 f5
  have s7 := l3_s7 (x0 := x0) (x1 := x1) (x2 := x2) (a1 := a1) (a2 := a2) (a3 := a3) (a4 := a4) (a6 := a6) (a7 := a7) (a8 := a8) (a9 := a9) (a10 := a10) (a11 := a11) (a12 := a12) (a13 := a13) (a14 := a14) (a15 := a15) (a16 := a16) (a17 := a17) (H := H) (H16 := H16) (H18 := H18) (H19 := H19) (E := E) (E16 := E16) (E19 := E19) (E18 := []) f0 f1 f2 f3 f4 f5 f6
  have s8 := l3_s8 (x0 := x0) (x1 := x1) (x2 := x2) (a1 := a1) (a2 := a2) (a3 := a3) (a4 := a4) (a6 := a6) (a7 := a7) (a8 := a8) (a9 := a9) (a10 := a10) (a11 := a11) (a12 := a12) (a13 := a13) (a14 := a14) (a15 := a15) (a16 := a16) (a17 := a17) (H := H) (H16 := H16) (H18 := H18) (H19 := H19) (E := E) (E16 := E16) (E19 := E19) (E18 := []) f0 f1 f2 f3 f4 f5 f6 f7
  have dq : drawQ (C.hint 78) 3 (opsOf Try.f78 3) = [(0, 0), (1, 1), (2, 2), (3, 3), (5, 5), (5, 8)] := by kernel_rfl
  have sq : swapQ (C.hint 78) 3 (opsOf Try.f78 3) 6 7 = [5] := by kernel_rfl
  refine ⟨by kernel_rfl, ?_, 6, 7, by kernel_rfl, ?_⟩
  · rw [dq]
    intro p hp
    simp only [List.mem_cons, List.not_mem_nil, or_false] at hp
    rcases hp with rfl | rfl | rfl | rfl | rfl | rfl
    · exact drawAt_of o0 (by kernel_rfl) (by kernel_rfl) s0 s0 ((by kernel_rfl : _ = (loadA false 1 x2 H).bind fun v => some v).trans (by rw [f0]; rfl)) ((by kernel_rfl : _ = (loadA false 1 x2 H).bind fun v => some v).trans (by rw [f0]; rfl))
    · exact drawAt_of o1 (by kernel_rfl) (by kernel_rfl) s1 s1 ((by kernel_rfl : _ = (loadA true 5 a1 H).bind fun v => some v).trans (by rw [f1]; rfl)) ((by kernel_rfl : _ = (loadA true 5 a1 H).bind fun v => some v).trans (by rw [f1]; rfl))
    · exact drawAt_of o2 (by kernel_rfl) (by kernel_rfl) s2 s2 ((by kernel_rfl : _ = (lenV a12 H).bind fun v => some v).trans (by rw [f2]; rfl)) ((by kernel_rfl : _ = (lenV a12 H).bind fun v => some v).trans (by rw [f2]; rfl))
    · exact drawAt_of o3 (by kernel_rfl) (by kernel_rfl) s3 s3 ((by kernel_rfl : _ = (litD 5 1 (.agg [(.int .i64 0), .nils, .nils, .nils, .nils]) [(0, (.agg [(.int .i64 0), .nils, .nils, .nils, .nils]))] H).bind fun v => some v).trans (by rw [f3d]; rfl)) ((by kernel_rfl : _ = (litD 5 1 (.agg [(.int .i64 0), .nils, .nils, .nils, .nils]) [(0, (.agg [(.int .i64 0), .nils, .nils, .nils, .nils]))] H).bind fun v => some v).trans (by rw [f3d]; rfl))
    · exact drawAt_of o5 (by kernel_rfl) (by kernel_rfl) s5 s5 ((by kernel_rfl : _ = (ixA 5 a16 a14 H16).bind fun v => some v).trans (by rw [f5]; rfl)) ((by kernel_rfl : _ = (ixA 5 a16 a14 H16).bind fun v => some v).trans (by rw [f5]; rfl))
    · exact drawAt_of o5 (by kernel_rfl) (by kernel_rfl) s5 s8 ((by kernel_rfl : _ = (ixA 5 a16 a14 H16).bind fun v => some v).trans (by rw [f5]; rfl)) ((by kernel_rfl : _ = (ixA 5 a16 a14 H19).bind fun v => some v).trans (by rw [g5]; rfl))
  · refine ⟨_, _, _, _, _, _, _, Hm, o6, o7, s6, s7, s8, valE_of (by kernel_rfl) ((by kernel_rfl : _ = stoK 5 a17 a13 H16 fun H E => some (.tup [], H, E)).trans (f6r _)), valE_of (by kernel_rfl) ((by kernel_rfl : _ = stoK 1 x2 a16 H18 fun H E => some (.tup [], H, E)).trans (f7r _)),
      valE_of (by kernel_rfl) ((by kernel_rfl : _ = stoK 1 x2 a16 H16 fun H E => some (.tup [], H, E)).trans (g7 fun v H E => some (v, H, E))), valE_of (by kernel_rfl) ((by kernel_rfl : _ = stoK 5 a17 a13 Hm fun H E => some (.tup [], H, E)).trans (g6 fun v H E => some (v, H, E))), by simp, ?_⟩
    rw [sq]
    intro i hi
    obtain rfl : i = 5 := by simpa using hi
    exact swapRd_of o5 (by kernel_rfl) (by kernel_rfl) s5 ((by kernel_rfl : _ = (ixA 5 a16 a14 H16).bind fun v => some v).trans (by rw [f5]; rfl)) ((by kernel_rfl : _ = (ixA 5 a16 a14 Hm).bind fun v => some v).trans (by rw [g5']; rfl))
end Go.Pm
