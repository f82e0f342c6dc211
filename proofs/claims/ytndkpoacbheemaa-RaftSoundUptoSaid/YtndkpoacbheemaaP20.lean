/- A part of the proof: what the functions of the program answer, as plain lists and numbers. -/
import Derived.Test.YtndkpoacbheemaaP19
namespace Go.Pm
open Go.Proofs
set_option linter.unusedVariables false
set_option linter.unusedSimpArgs false
def Lg.base (g : Lg) : AV := .agg [.int .i64 g.index, .int .i64 g.term, ints g.mems]
theorem ld_base0 (g : Lg) (T : List AObj) : loadA true 3 (.ptr 0 1 0 0) (.row 4 [g.av] :: T) = some g.base := rfl
theorem ld_base1_i (g : Lg) (o : AObj) (T : List AObj) : loadA false 1 (.ptr 1 1 0 0) (o :: .row 3 [g.base] :: T) = some (.int .i64 g.index) := rfl
theorem ld_base1_t (g : Lg) (o : AObj) (T : List AObj) : loadA false 1 (.ptr 1 1 0 1) (o :: .row 3 [g.base] :: T) = some (.int .i64 g.term) := rfl
theorem ld_base1_m (g : Lg) (o : AObj) (T : List AObj) : loadA false 1 (.ptr 1 1 0 2) (o :: .row 3 [g.base] :: T) = some (ints g.mems) := rfl
structure Small (g : Lg) : Prop where
  i0 : 0 ≤ g.index
  i1 : g.index + g.es.length ≤ most
theorem sound_small {g : Lg} (h : soundL g = true) : Small g := by
  simp only [soundL, Bool.and_eq_true, decide_eq_true_eq] at h
  exact ⟨by omega, by omega⟩
def lastL (g : Lg) : Int := g.index + g.es.length
theorem last_ok (g : Lg) (h : Small g) : EV C n_log_last [g.av] [] = some (.int .i64 (lastL g), [], []) := by
  refine log_last_of ?_
  have h0 := h.i0; have h1 := h.i1; have hmo : most = 1152921504606846976 := rfl
  have e1 : IntKind.i64.wrap (g.index + (g.es.length : Int)) = g.index + (g.es.length : Int) := by rw [wrap64] <;> omega
  simp only [List.length_nil, new_lg, new_ent, List.nil_append, List.length_singleton, List.singleton_append, List.cons_append, List.length_cons, Nat.reduceAdd, offA_ptr, offA_ip, Option.bind_some, Nat.zero_add, Nat.add_zero, ld_lg0_i, ld_lg0_t, ld_lg0_m, ld_lg0_e, ld_lg0, ld_ent0_t, ld_ent0_k, ld_ent0_d, ld_ent1_t, ld_ent1_k, ld_ent1_d, ld_ent0, ld_ent1, lenV_ents, lenV_ints, lenV_bys, lss_int, leq_int, gtr_int, geq_int, eql_int, neq_int, add_int, sub_int, splitK_dec, condK_dec, splitK_t, splitK_f, condK_t, condK_f, not_bool, List.drop_succ_cons, List.drop_zero, loadA_ipc, loadA_ent, extA_0, extA_1, Bool.not_true, Bool.not_false, Bool.false_eq_true, if_false, if_true, and_self, and_true, and_false, false_and, ld_ent2_t, ld_ent2_k, ld_ent2_d, neq_nil1, neq_nil2, eql_nil2, nili_eq, ld_base0, ld_base1_i, ld_base1_t, ld_base1_m, e1]
  exact endB_good rfl
def hasL (g : Lg) (i : Int) : Bool := decide (g.index ≤ i ∧ i ≤ lastL g)
theorem hasL_iff {g : Lg} {i : Int} : hasL g i = true ↔ g.index ≤ i ∧ i ≤ g.index + (g.es.length : Int) := by unfold hasL lastL; exact decide_eq_true_iff
theorem has_ok (g : Lg) (i : Int) (h : Small g) : EV C n_log_has [g.av, .int .i64 i] [] = some (.bool (hasL g i), [], []) := by
  refine log_has_of ?_
  simp only [List.length_nil, new_lg, new_ent, List.nil_append, List.length_singleton, List.singleton_append, List.cons_append, List.length_cons, Nat.reduceAdd, offA_ptr, offA_ip, Option.bind_some, Nat.zero_add, Nat.add_zero, ld_lg0_i, ld_lg0_t, ld_lg0_m, ld_lg0_e, ld_lg0, ld_ent0_t, ld_ent0_k, ld_ent0_d, ld_ent1_t, ld_ent1_k, ld_ent1_d, ld_ent0, ld_ent1, lenV_ents, lenV_ints, lenV_bys, lss_int, leq_int, gtr_int, geq_int, eql_int, neq_int, add_int, sub_int, splitK_dec, condK_dec, splitK_t, splitK_f, condK_t, condK_f, not_bool, List.drop_succ_cons, List.drop_zero, loadA_ipc, loadA_ent, extA_0, extA_1, Bool.not_true, Bool.not_false, Bool.false_eq_true, if_false, if_true, and_self, and_true, and_false, false_and, ld_ent2_t, ld_ent2_k, ld_ent2_d, neq_nil1, neq_nil2, eql_nil2, nili_eq, ld_base0, ld_base1_i, ld_base1_t, ld_base1_m]
  split
  · rename_i h1
    rw [callK_ok (by simp) (last_ok g h)]
    simp only [List.length_nil, new_lg, new_ent, List.nil_append, List.length_singleton, List.singleton_append, List.cons_append, List.length_cons, Nat.reduceAdd, offA_ptr, offA_ip, Option.bind_some, Nat.zero_add, Nat.add_zero, ld_lg0_i, ld_lg0_t, ld_lg0_m, ld_lg0_e, ld_lg0, ld_ent0_t, ld_ent0_k, ld_ent0_d, ld_ent1_t, ld_ent1_k, ld_ent1_d, ld_ent0, ld_ent1, lenV_ents, lenV_ints, lenV_bys, lss_int, leq_int, gtr_int, geq_int, eql_int, neq_int, add_int, sub_int, splitK_dec, condK_dec, splitK_t, splitK_f, condK_t, condK_f, not_bool, List.drop_succ_cons, List.drop_zero, loadA_ipc, loadA_ent, extA_0, extA_1, Bool.not_true, Bool.not_false, Bool.false_eq_true, if_false, if_true, and_self, and_true, and_false, false_and, ld_ent2_t, ld_ent2_k, ld_ent2_d, neq_nil1, neq_nil2, eql_nil2, nili_eq, ld_base0, ld_base1_i, ld_base1_t, ld_base1_m]
    refine (endB_good rfl).trans ?_
    simp [hasL, h1]
  · rename_i h1
    refine (endB_good rfl).trans ?_
    simp [hasL, h1]
def termL (g : Lg) (i : Int) : Int := if i = g.index then g.term else ((g.es[(i - g.index - 1).toNat]?).map (·.term)).getD 0
theorem has_get {g : Lg} {i : Int} (h : hasL g i = true) (hne : i ≠ g.index) : ∃ e, g.es[(i - g.index - 1).toNat]? = some e ∧ termL g i = e.term := by
  have h := hasL_iff.1 h
  have hlt : (i - g.index - 1).toNat < g.es.length := by omega
  refine ⟨g.es[(i - g.index - 1).toNat], List.getElem?_eq_getElem hlt, ?_⟩
  simp only [termL, if_neg hne, List.getElem?_eq_getElem hlt, Option.map_some, Option.getD_some]
theorem term_ok (g : Lg) (i : Int) (h : Small g) (hh : hasL g i = true) : EV C n_log_term [g.av, .int .i64 i] [] = some (.int .i64 (termL g i), [], []) := by
  refine log_term_of ?_
  have h0 := h.i0; have h1 := h.i1; have hmo : most = 1152921504606846976 := rfl
  have hb := hasL_iff.1 hh
  simp only [List.length_nil, new_lg, new_ent, List.nil_append, List.length_singleton, List.singleton_append, List.cons_append, List.length_cons, Nat.reduceAdd, offA_ptr, offA_ip, Option.bind_some, Nat.zero_add, Nat.add_zero, ld_lg0_i, ld_lg0_t, ld_lg0_m, ld_lg0_e, ld_lg0, ld_ent0_t, ld_ent0_k, ld_ent0_d, ld_ent1_t, ld_ent1_k, ld_ent1_d, ld_ent0, ld_ent1, lenV_ents, lenV_ints, lenV_bys, lss_int, leq_int, gtr_int, geq_int, eql_int, neq_int, add_int, sub_int, splitK_dec, condK_dec, splitK_t, splitK_f, condK_t, condK_f, not_bool, List.drop_succ_cons, List.drop_zero, loadA_ipc, loadA_ent, extA_0, extA_1, Bool.not_true, Bool.not_false, Bool.false_eq_true, if_false, if_true, and_self, and_true, and_false, false_and, ld_ent2_t, ld_ent2_k, ld_ent2_d, neq_nil1, neq_nil2, eql_nil2, nili_eq, ld_base0, ld_base1_i, ld_base1_t, ld_base1_m]
  split
  · rename_i he
    simp only [termL, if_pos he]
    exact endB_good rfl
  · rename_i he
    obtain ⟨e, h3, h4⟩ := has_get hh he
    have e1 : IntKind.i64.wrap (i - g.index) = i - g.index := by rw [wrap64] <;> omega
    have e2 : IntKind.i64.wrap (i - g.index - 1) = i - g.index - 1 := by rw [wrap64] <;> omega
    simp only [List.length_nil, new_lg, new_ent, List.nil_append, List.length_singleton, List.singleton_append, List.cons_append, List.length_cons, Nat.reduceAdd, offA_ptr, offA_ip, Option.bind_some, Nat.zero_add, Nat.add_zero, ld_lg0_i, ld_lg0_t, ld_lg0_m, ld_lg0_e, ld_lg0, ld_ent0_t, ld_ent0_k, ld_ent0_d, ld_ent1_t, ld_ent1_k, ld_ent1_d, ld_ent0, ld_ent1, lenV_ents, lenV_ints, lenV_bys, lss_int, leq_int, gtr_int, geq_int, eql_int, neq_int, add_int, sub_int, splitK_dec, condK_dec, splitK_t, splitK_f, condK_t, condK_f, not_bool, List.drop_succ_cons, List.drop_zero, loadA_ipc, loadA_ent, extA_0, extA_1, Bool.not_true, Bool.not_false, Bool.false_eq_true, if_false, if_true, and_self, and_true, and_false, false_and, ld_ent2_t, ld_ent2_k, ld_ent2_d, neq_nil1, neq_nil2, eql_nil2, nili_eq, ld_base0, ld_base1_i, ld_base1_t, ld_base1_m, e1, e2, ixA_ents' (show 0 ≤ i - g.index - 1 by omega) h3, h4]
    exact endB_good rfl
theorem rTerm_ok (g : Lg) (i : Int) (h : Small g) (hh : hasL g i = true) : EV C n_ref18_Term [g.av, .int .i64 i] [] = some (.int .i64 (termL g i), [], []) := by
  refine ref18_Term_of ?_
  have h0 := h.i0; have h1 := h.i1; have hmo : most = 1152921504606846976 := rfl
  have hb := hasL_iff.1 hh
  have e1 : IntKind.i64.wrap (i - g.index) = i - g.index := by rw [wrap64] <;> omega
  simp only [List.length_nil, new_lg, new_ent, List.nil_append, List.length_singleton, List.singleton_append, List.cons_append, List.length_cons, Nat.reduceAdd, offA_ptr, offA_ip, Option.bind_some, Nat.zero_add, Nat.add_zero, ld_lg0_i, ld_lg0_t, ld_lg0_m, ld_lg0_e, ld_lg0, ld_ent0_t, ld_ent0_k, ld_ent0_d, ld_ent1_t, ld_ent1_k, ld_ent1_d, ld_ent0, ld_ent1, lenV_ents, lenV_ints, lenV_bys, lss_int, leq_int, gtr_int, geq_int, eql_int, neq_int, add_int, sub_int, splitK_dec, condK_dec, splitK_t, splitK_f, condK_t, condK_f, not_bool, List.drop_succ_cons, List.drop_zero, loadA_ipc, loadA_ent, extA_0, extA_1, Bool.not_true, Bool.not_false, Bool.false_eq_true, if_false, if_true, and_self, and_true, and_false, false_and, ld_ent2_t, ld_ent2_k, ld_ent2_d, neq_nil1, neq_nil2, eql_nil2, nili_eq, ld_base0, ld_base1_i, ld_base1_t, ld_base1_m, e1]
  split
  · rename_i he
    have : i = g.index := by omega
    simp only [termL, if_pos this]
    exact endB_good rfl
  · rename_i he
    obtain ⟨e, h3, h4⟩ := has_get hh (by omega)
    have e2 : IntKind.i64.wrap (i - g.index - 1) = i - g.index - 1 := by rw [wrap64] <;> omega
    simp only [List.length_nil, new_lg, new_ent, List.nil_append, List.length_singleton, List.singleton_append, List.cons_append, List.length_cons, Nat.reduceAdd, offA_ptr, offA_ip, Option.bind_some, Nat.zero_add, Nat.add_zero, ld_lg0_i, ld_lg0_t, ld_lg0_m, ld_lg0_e, ld_lg0, ld_ent0_t, ld_ent0_k, ld_ent0_d, ld_ent1_t, ld_ent1_k, ld_ent1_d, ld_ent0, ld_ent1, lenV_ents, lenV_ints, lenV_bys, lss_int, leq_int, gtr_int, geq_int, eql_int, neq_int, add_int, sub_int, splitK_dec, condK_dec, splitK_t, splitK_f, condK_t, condK_f, not_bool, List.drop_succ_cons, List.drop_zero, loadA_ipc, loadA_ent, extA_0, extA_1, Bool.not_true, Bool.not_false, Bool.false_eq_true, if_false, if_true, and_self, and_true, and_false, false_and, ld_ent2_t, ld_ent2_k, ld_ent2_d, neq_nil1, neq_nil2, eql_nil2, nili_eq, ld_base0, ld_base1_i, ld_base1_t, ld_base1_m, e1, e2, ixA_ents' (show 0 ≤ i - g.index - 1 by omega) h3, h4]
    exact endB_good rfl
structure LgOk (g : Lg) : Prop where
  m : g.mems.length < 2^62
  e : g.es.length < 2^40
  d : lightP g.es
def checkA (g : Lg) : AV := if soundL g = true then .nili else codeA 3
theorem Check_ok' (g : Lg) (h : LgOk g) : EV C n_log_Check [g.av] [] = some (checkA g, [], []) := Check_ok g h.m (by have := h.e; omega) h.d
theorem Last_ok (g : Lg) (h : LgOk g) : EV C n_log_Last [g.av] [] = some (.tup [.int .i64 (if soundL g = true then lastL g else 0), .int .i64 (if soundL g = true then termL g (lastL g) else 0)], [], []) := by
  refine log_Last_of ?_
  simp only [List.length_nil, new_lg, new_ent, List.nil_append, List.length_singleton, List.singleton_append, List.cons_append, List.length_cons, Nat.reduceAdd, offA_ptr, offA_ip, Option.bind_some, Nat.zero_add, Nat.add_zero, ld_lg0_i, ld_lg0_t, ld_lg0_m, ld_lg0_e, ld_lg0, ld_ent0_t, ld_ent0_k, ld_ent0_d, ld_ent1_t, ld_ent1_k, ld_ent1_d, ld_ent0, ld_ent1, lenV_ents, lenV_ints, lenV_bys, lss_int, leq_int, gtr_int, geq_int, eql_int, neq_int, add_int, sub_int, splitK_dec, condK_dec, splitK_t, splitK_f, condK_t, condK_f, not_bool, List.drop_succ_cons, List.drop_zero, loadA_ipc, loadA_ent, extA_0, extA_1, Bool.not_true, Bool.not_false, Bool.false_eq_true, if_false, if_true, and_self, and_true, and_false, false_and, ld_ent2_t, ld_ent2_k, ld_ent2_d, neq_nil1, neq_nil2, eql_nil2, nili_eq, ld_base0, ld_base1_i, ld_base1_t, ld_base1_m]
  rw [callK_ok (by simp) (Check_ok' g h)]
  unfold checkA codeA
  by_cases hs : soundL g = true
  · have hsm := sound_small hs
    have hl : hasL g (lastL g) = true := hasL_iff.2 (by unfold lastL; omega)
    simp only [hs, if_true, List.length_nil, new_lg, new_ent, List.nil_append, List.length_singleton, List.singleton_append, List.cons_append, List.length_cons, Nat.reduceAdd, offA_ptr, offA_ip, Option.bind_some, Nat.zero_add, Nat.add_zero, ld_lg0_i, ld_lg0_t, ld_lg0_m, ld_lg0_e, ld_lg0, ld_ent0_t, ld_ent0_k, ld_ent0_d, ld_ent1_t, ld_ent1_k, ld_ent1_d, ld_ent0, ld_ent1, lenV_ents, lenV_ints, lenV_bys, lss_int, leq_int, gtr_int, geq_int, eql_int, neq_int, add_int, sub_int, splitK_dec, condK_dec, splitK_t, splitK_f, condK_t, condK_f, not_bool, List.drop_succ_cons, List.drop_zero, loadA_ipc, loadA_ent, extA_0, extA_1, Bool.not_true, Bool.not_false, Bool.false_eq_true, if_false, if_true, and_self, and_true, and_false, false_and, ld_ent2_t, ld_ent2_k, ld_ent2_d, neq_nil1, neq_nil2, eql_nil2, nili_eq, ld_base0, ld_base1_i, ld_base1_t, ld_base1_m]
    rw [callD_ok (by simp) (last_ok g hsm)]
    simp only [List.length_nil, new_lg, new_ent, List.nil_append, List.length_singleton, List.singleton_append, List.cons_append, List.length_cons, Nat.reduceAdd, offA_ptr, offA_ip, Option.bind_some, Nat.zero_add, Nat.add_zero, ld_lg0_i, ld_lg0_t, ld_lg0_m, ld_lg0_e, ld_lg0, ld_ent0_t, ld_ent0_k, ld_ent0_d, ld_ent1_t, ld_ent1_k, ld_ent1_d, ld_ent0, ld_ent1, lenV_ents, lenV_ints, lenV_bys, lss_int, leq_int, gtr_int, geq_int, eql_int, neq_int, add_int, sub_int, splitK_dec, condK_dec, splitK_t, splitK_f, condK_t, condK_f, not_bool, List.drop_succ_cons, List.drop_zero, loadA_ipc, loadA_ent, extA_0, extA_1, Bool.not_true, Bool.not_false, Bool.false_eq_true, if_false, if_true, and_self, and_true, and_false, false_and, ld_ent2_t, ld_ent2_k, ld_ent2_d, neq_nil1, neq_nil2, eql_nil2, nili_eq, ld_base0, ld_base1_i, ld_base1_t, ld_base1_m]
    rw [callD_ok (by simp) (term_ok g _ hsm hl)]
    simp only [List.length_nil, new_lg, new_ent, List.nil_append, List.length_singleton, List.singleton_append, List.cons_append, List.length_cons, Nat.reduceAdd, offA_ptr, offA_ip, Option.bind_some, Nat.zero_add, Nat.add_zero, ld_lg0_i, ld_lg0_t, ld_lg0_m, ld_lg0_e, ld_lg0, ld_ent0_t, ld_ent0_k, ld_ent0_d, ld_ent1_t, ld_ent1_k, ld_ent1_d, ld_ent0, ld_ent1, lenV_ents, lenV_ints, lenV_bys, lss_int, leq_int, gtr_int, geq_int, eql_int, neq_int, add_int, sub_int, splitK_dec, condK_dec, splitK_t, splitK_f, condK_t, condK_f, not_bool, List.drop_succ_cons, List.drop_zero, loadA_ipc, loadA_ent, extA_0, extA_1, Bool.not_true, Bool.not_false, Bool.false_eq_true, if_false, if_true, and_self, and_true, and_false, false_and, ld_ent2_t, ld_ent2_k, ld_ent2_d, neq_nil1, neq_nil2, eql_nil2, nili_eq, ld_base0, ld_base1_i, ld_base1_t, ld_base1_m]
    exact endB_good rfl
  · simp only [hs, if_false, List.length_nil, new_lg, new_ent, List.nil_append, List.length_singleton, List.singleton_append, List.cons_append, List.length_cons, Nat.reduceAdd, offA_ptr, offA_ip, Option.bind_some, Nat.zero_add, Nat.add_zero, ld_lg0_i, ld_lg0_t, ld_lg0_m, ld_lg0_e, ld_lg0, ld_ent0_t, ld_ent0_k, ld_ent0_d, ld_ent1_t, ld_ent1_k, ld_ent1_d, ld_ent0, ld_ent1, lenV_ents, lenV_ints, lenV_bys, lss_int, leq_int, gtr_int, geq_int, eql_int, neq_int, add_int, sub_int, splitK_dec, condK_dec, splitK_t, splitK_f, condK_t, condK_f, not_bool, List.drop_succ_cons, List.drop_zero, loadA_ipc, loadA_ent, extA_0, extA_1, Bool.not_true, Bool.not_false, Bool.false_eq_true, if_false, if_true, and_self, and_true, and_false, false_and, ld_ent2_t, ld_ent2_k, ld_ent2_d, neq_nil1, neq_nil2, eql_nil2, nili_eq, ld_base0, ld_base1_i, ld_base1_t, ld_base1_m]
    exact endB_good rfl
def askedA (g : Lg) (i : Int) : AV := if soundL g = true then (if hasL g i = true then .nili else codeA 9) else codeA 3
theorem asked_ok (g : Lg) (i : Int) (h : LgOk g) : EV C n_log_asked [g.av, .int .i64 i] [] = some (askedA g i, [], []) := by
  refine log_asked_of ?_
  simp only [List.length_nil, new_lg, new_ent, List.nil_append, List.length_singleton, List.singleton_append, List.cons_append, List.length_cons, Nat.reduceAdd, offA_ptr, offA_ip, Option.bind_some, Nat.zero_add, Nat.add_zero, ld_lg0_i, ld_lg0_t, ld_lg0_m, ld_lg0_e, ld_lg0, ld_ent0_t, ld_ent0_k, ld_ent0_d, ld_ent1_t, ld_ent1_k, ld_ent1_d, ld_ent0, ld_ent1, lenV_ents, lenV_ints, lenV_bys, lss_int, leq_int, gtr_int, geq_int, eql_int, neq_int, add_int, sub_int, splitK_dec, condK_dec, splitK_t, splitK_f, condK_t, condK_f, not_bool, List.drop_succ_cons, List.drop_zero, loadA_ipc, loadA_ent, extA_0, extA_1, Bool.not_true, Bool.not_false, Bool.false_eq_true, if_false, if_true, and_self, and_true, and_false, false_and, ld_ent2_t, ld_ent2_k, ld_ent2_d, neq_nil1, neq_nil2, eql_nil2, nili_eq, ld_base0, ld_base1_i, ld_base1_t, ld_base1_m]
  rw [callK_ok (by simp) (Check_ok' g h)]
  unfold checkA askedA codeA
  by_cases hs : soundL g = true
  · simp only [hs, if_true, List.length_nil, new_lg, new_ent, List.nil_append, List.length_singleton, List.singleton_append, List.cons_append, List.length_cons, Nat.reduceAdd, offA_ptr, offA_ip, Option.bind_some, Nat.zero_add, Nat.add_zero, ld_lg0_i, ld_lg0_t, ld_lg0_m, ld_lg0_e, ld_lg0, ld_ent0_t, ld_ent0_k, ld_ent0_d, ld_ent1_t, ld_ent1_k, ld_ent1_d, ld_ent0, ld_ent1, lenV_ents, lenV_ints, lenV_bys, lss_int, leq_int, gtr_int, geq_int, eql_int, neq_int, add_int, sub_int, splitK_dec, condK_dec, splitK_t, splitK_f, condK_t, condK_f, not_bool, List.drop_succ_cons, List.drop_zero, loadA_ipc, loadA_ent, extA_0, extA_1, Bool.not_true, Bool.not_false, Bool.false_eq_true, if_false, if_true, and_self, and_true, and_false, false_and, ld_ent2_t, ld_ent2_k, ld_ent2_d, neq_nil1, neq_nil2, eql_nil2, nili_eq, ld_base0, ld_base1_i, ld_base1_t, ld_base1_m]
    rw [callK_ok (by simp) (has_ok g i (sound_small hs))]
    by_cases hh : hasL g i = true
    · simp only [hh, if_true, List.length_nil, new_lg, new_ent, List.nil_append, List.length_singleton, List.singleton_append, List.cons_append, List.length_cons, Nat.reduceAdd, offA_ptr, offA_ip, Option.bind_some, Nat.zero_add, Nat.add_zero, ld_lg0_i, ld_lg0_t, ld_lg0_m, ld_lg0_e, ld_lg0, ld_ent0_t, ld_ent0_k, ld_ent0_d, ld_ent1_t, ld_ent1_k, ld_ent1_d, ld_ent0, ld_ent1, lenV_ents, lenV_ints, lenV_bys, lss_int, leq_int, gtr_int, geq_int, eql_int, neq_int, add_int, sub_int, splitK_dec, condK_dec, splitK_t, splitK_f, condK_t, condK_f, not_bool, List.drop_succ_cons, List.drop_zero, loadA_ipc, loadA_ent, extA_0, extA_1, Bool.not_true, Bool.not_false, Bool.false_eq_true, if_false, if_true, and_self, and_true, and_false, false_and, ld_ent2_t, ld_ent2_k, ld_ent2_d, neq_nil1, neq_nil2, eql_nil2, nili_eq, ld_base0, ld_base1_i, ld_base1_t, ld_base1_m]; exact endB_good rfl
    · simp only [Bool.not_eq_true] at hh
      simp only [hh, Bool.false_eq_true, if_false, List.length_nil, new_lg, new_ent, List.nil_append, List.length_singleton, List.singleton_append, List.cons_append, List.length_cons, Nat.reduceAdd, offA_ptr, offA_ip, Option.bind_some, Nat.zero_add, Nat.add_zero, ld_lg0_i, ld_lg0_t, ld_lg0_m, ld_lg0_e, ld_lg0, ld_ent0_t, ld_ent0_k, ld_ent0_d, ld_ent1_t, ld_ent1_k, ld_ent1_d, ld_ent0, ld_ent1, lenV_ents, lenV_ints, lenV_bys, lss_int, leq_int, gtr_int, geq_int, eql_int, neq_int, add_int, sub_int, splitK_dec, condK_dec, splitK_t, splitK_f, condK_t, condK_f, not_bool, List.drop_succ_cons, List.drop_zero, loadA_ipc, loadA_ent, extA_0, extA_1, Bool.not_true, Bool.not_false, Bool.false_eq_true, if_false, if_true, and_self, and_true, and_false, false_and, ld_ent2_t, ld_ent2_k, ld_ent2_d, neq_nil1, neq_nil2, eql_nil2, nili_eq, ld_base0, ld_base1_i, ld_base1_t, ld_base1_m]; exact endB_good rfl
  · simp only [hs, if_false, List.length_nil, new_lg, new_ent, List.nil_append, List.length_singleton, List.singleton_append, List.cons_append, List.length_cons, Nat.reduceAdd, offA_ptr, offA_ip, Option.bind_some, Nat.zero_add, Nat.add_zero, ld_lg0_i, ld_lg0_t, ld_lg0_m, ld_lg0_e, ld_lg0, ld_ent0_t, ld_ent0_k, ld_ent0_d, ld_ent1_t, ld_ent1_k, ld_ent1_d, ld_ent0, ld_ent1, lenV_ents, lenV_ints, lenV_bys, lss_int, leq_int, gtr_int, geq_int, eql_int, neq_int, add_int, sub_int, splitK_dec, condK_dec, splitK_t, splitK_f, condK_t, condK_f, not_bool, List.drop_succ_cons, List.drop_zero, loadA_ipc, loadA_ent, extA_0, extA_1, Bool.not_true, Bool.not_false, Bool.false_eq_true, if_false, if_true, and_self, and_true, and_false, false_and, ld_ent2_t, ld_ent2_k, ld_ent2_d, neq_nil1, neq_nil2, eql_nil2, nili_eq, ld_base0, ld_base1_i, ld_base1_t, ld_base1_m]
    exact endB_good rfl
theorem Term_ok (g : Lg) (i : Int) (h : LgOk g) : EV C n_log_Term [g.av, .int .i64 i] [] = some (.tup [.int .i64 (if soundL g = true ∧ hasL g i = true then termL g i else 0), askedA g i], [], []) := by
  refine log_Term_of ?_
  simp only [List.length_nil, new_lg, new_ent, List.nil_append, List.length_singleton, List.singleton_append, List.cons_append, List.length_cons, Nat.reduceAdd, offA_ptr, offA_ip, Option.bind_some, Nat.zero_add, Nat.add_zero, ld_lg0_i, ld_lg0_t, ld_lg0_m, ld_lg0_e, ld_lg0, ld_ent0_t, ld_ent0_k, ld_ent0_d, ld_ent1_t, ld_ent1_k, ld_ent1_d, ld_ent0, ld_ent1, lenV_ents, lenV_ints, lenV_bys, lss_int, leq_int, gtr_int, geq_int, eql_int, neq_int, add_int, sub_int, splitK_dec, condK_dec, splitK_t, splitK_f, condK_t, condK_f, not_bool, List.drop_succ_cons, List.drop_zero, loadA_ipc, loadA_ent, extA_0, extA_1, Bool.not_true, Bool.not_false, Bool.false_eq_true, if_false, if_true, and_self, and_true, and_false, false_and, ld_ent2_t, ld_ent2_k, ld_ent2_d, neq_nil1, neq_nil2, eql_nil2, nili_eq, ld_base0, ld_base1_i, ld_base1_t, ld_base1_m]
  rw [callK_ok (by simp) (asked_ok g i h)]
  unfold askedA codeA
  by_cases hs : soundL g = true
  · by_cases hh : hasL g i = true
    · simp only [hs, hh, if_true, List.length_nil, new_lg, new_ent, List.nil_append, List.length_singleton, List.singleton_append, List.cons_append, List.length_cons, Nat.reduceAdd, offA_ptr, offA_ip, Option.bind_some, Nat.zero_add, Nat.add_zero, ld_lg0_i, ld_lg0_t, ld_lg0_m, ld_lg0_e, ld_lg0, ld_ent0_t, ld_ent0_k, ld_ent0_d, ld_ent1_t, ld_ent1_k, ld_ent1_d, ld_ent0, ld_ent1, lenV_ents, lenV_ints, lenV_bys, lss_int, leq_int, gtr_int, geq_int, eql_int, neq_int, add_int, sub_int, splitK_dec, condK_dec, splitK_t, splitK_f, condK_t, condK_f, not_bool, List.drop_succ_cons, List.drop_zero, loadA_ipc, loadA_ent, extA_0, extA_1, Bool.not_true, Bool.not_false, Bool.false_eq_true, if_false, if_true, and_self, and_true, and_false, false_and, ld_ent2_t, ld_ent2_k, ld_ent2_d, neq_nil1, neq_nil2, eql_nil2, nili_eq, ld_base0, ld_base1_i, ld_base1_t, ld_base1_m, and_self]
      rw [callK_ok (by simp) (term_ok g i (sound_small hs) hh)]
      exact endB_good rfl
    · simp only [hs, hh, if_true, if_false, List.length_nil, new_lg, new_ent, List.nil_append, List.length_singleton, List.singleton_append, List.cons_append, List.length_cons, Nat.reduceAdd, offA_ptr, offA_ip, Option.bind_some, Nat.zero_add, Nat.add_zero, ld_lg0_i, ld_lg0_t, ld_lg0_m, ld_lg0_e, ld_lg0, ld_ent0_t, ld_ent0_k, ld_ent0_d, ld_ent1_t, ld_ent1_k, ld_ent1_d, ld_ent0, ld_ent1, lenV_ents, lenV_ints, lenV_bys, lss_int, leq_int, gtr_int, geq_int, eql_int, neq_int, add_int, sub_int, splitK_dec, condK_dec, splitK_t, splitK_f, condK_t, condK_f, not_bool, List.drop_succ_cons, List.drop_zero, loadA_ipc, loadA_ent, extA_0, extA_1, Bool.not_true, Bool.not_false, Bool.false_eq_true, if_false, if_true, and_self, and_true, and_false, false_and, ld_ent2_t, ld_ent2_k, ld_ent2_d, neq_nil1, neq_nil2, eql_nil2, nili_eq, ld_base0, ld_base1_i, ld_base1_t, ld_base1_m, and_false]
      exact endB_good rfl
  · simp only [hs, if_false, List.length_nil, new_lg, new_ent, List.nil_append, List.length_singleton, List.singleton_append, List.cons_append, List.length_cons, Nat.reduceAdd, offA_ptr, offA_ip, Option.bind_some, Nat.zero_add, Nat.add_zero, ld_lg0_i, ld_lg0_t, ld_lg0_m, ld_lg0_e, ld_lg0, ld_ent0_t, ld_ent0_k, ld_ent0_d, ld_ent1_t, ld_ent1_k, ld_ent1_d, ld_ent0, ld_ent1, lenV_ents, lenV_ints, lenV_bys, lss_int, leq_int, gtr_int, geq_int, eql_int, neq_int, add_int, sub_int, splitK_dec, condK_dec, splitK_t, splitK_f, condK_t, condK_f, not_bool, List.drop_succ_cons, List.drop_zero, loadA_ipc, loadA_ent, extA_0, extA_1, Bool.not_true, Bool.not_false, Bool.false_eq_true, if_false, if_true, and_self, and_true, and_false, false_and, ld_ent2_t, ld_ent2_k, ld_ent2_d, neq_nil1, neq_nil2, eql_nil2, nili_eq, ld_base0, ld_base1_i, ld_base1_t, ld_base1_m, false_and]
    exact endB_good rfl
end Go.Pm
