/- A part of the proof: what the functions of the program answer, as plain lists and numbers. -/
import Derived.Test.YtaoklfecdcakbaaP17
namespace Go.Pm
open Go.Proofs
set_option linter.unusedVariables false
set_option linter.unusedSimpArgs false
def wide (t : Tre) (l : Int) : Bool := decide (l < 0) || (decide (l < (t.kids.length : Int)) || (decide (3000 < t.key.length) || (decide (3000 < t.value.length) || decide (3000 < t.digest.length))))
mutual
def lightF : Tre → Int → Int → Int
  | .mk k a b c ks, l, d => if d = 0 then -1 else if wide (.mk k a b c ks) (l - 1) = true then -1 else lightL ks (l - 1) d
def lightL : List Tre → Int → Int → Int
  | [], l, _ => l
  | t :: ts, l, d => if lightF t l (d - 1) < 0 then -1 else lightL ts (lightF t l (d - 1)) d
end
theorem lightF_eq (t : Tre) (l d : Int) : lightF t l d = if d = 0 then -1 else if wide t (l - 1) = true then -1 else lightL t.kids (l - 1) d := by
  cases t with | mk k a b c ks => rw [lightF]; rfl
theorem lightL_le {d : Int} : ∀ (ks : List Tre), (∀ t ∈ ks, ∀ l d, lightF t l d ≤ max l (-1)) → ∀ l, lightL ks l d ≤ max l (-1)
  | [], _, l => by rw [lightL]; omega
  | t :: ts, h, l => by
    rw [lightL]
    split
    · omega
    · have h1 := h t (by simp) l (d - 1)
      have := lightL_le (d := d) ts (fun k hk => h k (List.mem_cons_of_mem _ hk)) (lightF t l (d - 1))
      omega
theorem lightF_le (t : Tre) : ∀ l d, lightF t l d ≤ max l (-1) := by
  induction t using Tre.ind with
  | h t ih =>
    intro l d
    rw [lightF_eq]
    split
    · omega
    · split
      · omega
      · have := lightL_le (d := d) t.kids ih (l - 1)
        omega
theorem light_loop (t : Tre) (d : Int) (hd : 0 < d ∧ d < 2^60) (hk : t.kids.length ≤ 2^50) (ih : ∀ k ∈ t.kids, ∀ l d : Int, -2^60 < l → l < 2^60 → 0 ≤ d → d < 2^60 → EV C n_ref04_Light [k.av, .int .i64 l, .int .i64 d] [] = some (.int .i64 (lightF k l d), [], [])) : ∀ (m i : Nat) (l : Int) (E : List Nat), i + m = t.kids.length → -1 ≤ l → l < 2^60 →
    ref04_Light_J5 0 (.int .i64 l) (.int .i64 d) (.ptr 0 1 0 0) (.int .i64 (i : Int)) [.row 5 [t.av]] E = some (.int .i64 (lightL (t.kids.drop i) l d), [], [])
  | 0, i, l, E, h, hl, hu => by
    refine ref04_Light_J5_of ?_
    have e1 : ¬ ((i : Int) < (t.kids.length : Int)) := by omega
    have e2 : t.kids.drop i = [] := List.drop_eq_nil_of_le (by omega)
    simp only [offA_ptr, Option.bind_some, Nat.zero_add, ld_tr0_s, lenV_kids, lss_int, e1, decide_false, condK_f, e2, lightL]
    exact endB_good rfl
  | m + 1, i, l, E, h, hl, hu => by
    refine ref04_Light_J5_of ?_
    have hi : i < t.kids.length := by omega
    have e1 : ((i : Int) < (t.kids.length : Int)) := by omega
    have e2 : t.kids.drop i = t.kids[i] :: t.kids.drop (i + 1) := List.drop_eq_getElem_cons hi
    have e3 : IntKind.i64.wrap ((i : Int) + 1) = ((i + 1 : Nat) : Int) := w64 (by omega) (by omega)
    have e4 : IntKind.i64.wrap (d - 1) = d - 1 := by rw [wrap64] <;> omega
    simp only [offA_ptr, Option.bind_some, Nat.zero_add, ld_tr0_s, lenV_kids, lss_int, e1, decide_true, condK_t, e2, lightL, ixA_kids (List.getElem?_eq_getElem hi), loadA_tr, sub_int, e4]
    rw [callK_ok (by simp) (ih t.kids[i] (List.getElem_mem hi) l (d - 1) (by omega) hu (by omega) (by omega))]
    simp only [lss_int, Option.bind_some, condK_dec]
    split
    · exact endB_good rfl
    · simp only [add_int, e3, Option.bind_some]
      have := lightF_le t.kids[i] l (d - 1)
      exact light_loop t d hd hk ih m (i + 1) _ _ (by omega) (by omega) (by omega)
theorem Light_ok (t : Tre) : t.ok → ∀ l d : Int, -2^60 < l → l < 2^60 → 0 ≤ d → d < 2^60 → EV C n_ref04_Light [t.av, .int .i64 l, .int .i64 d] [] = some (.int .i64 (lightF t l d), [], []) := by
  induction t using Tre.ind with
  | h t ih =>
    intro ht l d hl hu hd hd2
    obtain ⟨ha, hb, hc, hk, hks⟩ := (ok_eq t).1 ht
    refine ref04_Light_of ?_
    have e4 : IntKind.i64.wrap (l - 1) = l - 1 := by rw [wrap64] <;> omega
    simp only [List.length_nil, new_tr, List.nil_append, sub_int, e4, Option.bind_some, eql_int, splitK_dec, lss_int, gtr_int, offA_ptr, Nat.zero_add, ld_tr0_a, ld_tr0_b, ld_tr0_c, ld_tr0_s, lenV_kids, lenV_bys, condK_dec]
    rw [lightF_eq]
    split
    · exact endB_good rfl
    · have bad : wide t (l - 1) = true → ∀ (H : List AObj) (E : List Nat), endB false false 0 (.int .i64 (-1)) H E = some (.int .i64 (if wide t (l - 1) = true then -1 else lightL t.kids (l - 1) d), [], []) := fun h H E => by
        rw [if_pos h]; exact endB_good rfl
      split
      · exact bad (by simp only [wide, Bool.or_eq_true, decide_eq_true_eq]; omega) _ _
      · split
        · exact bad (by simp only [wide, Bool.or_eq_true, decide_eq_true_eq]; omega) _ _
        · split
          · exact bad (by simp only [wide, Bool.or_eq_true, decide_eq_true_eq]; omega) _ _
          · split
            · exact bad (by simp only [wide, Bool.or_eq_true, decide_eq_true_eq]; omega) _ _
            · split
              · exact bad (by simp only [wide, Bool.or_eq_true, decide_eq_true_eq]; omega) _ _
              · have hw : ¬ wide t (l - 1) = true := by simp only [wide, Bool.or_eq_true, decide_eq_true_eq]; omega
                rw [if_neg hw]
                exact light_loop t d (by omega) hk (fun k hk => ih k hk (hks k hk)) t.kids.length 0 (l - 1) _ (by omega) (by omega) (by omega)
end Go.Pm
