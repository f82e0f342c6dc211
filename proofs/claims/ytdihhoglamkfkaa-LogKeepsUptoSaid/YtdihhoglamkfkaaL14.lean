/- A part of the proof: what the functions of the program answer, as plain lists and numbers. -/
import Derived.Test.YtdihhoglamkfkaaL13
namespace Go.Pm
open Go.Proofs
set_option linter.unusedVariables false
set_option linter.unusedSimpArgs false
/-! ### what a compacted log is -/
theorem chk_drop : ∀ (n : Nat) (l : List Ent) (t : Int), chkEs t l = true → n ≤ l.length → ∃ u, (n = 0 → u = t) ∧ (∀ e, 0 < n → l[n - 1]? = some e → u = e.term) ∧ chkEs u (l.drop n) = true
  | 0, l, t, h, hn => ⟨t, fun _ => rfl, fun e h0 => by omega, by simpa using h⟩
  | n + 1, [], t, h, hn => by simp at hn
  | n + 1, x :: l, t, h, hn => by
    simp only [chkEs, Bool.and_eq_true] at h
    obtain ⟨u, h1, h2, h3⟩ := chk_drop n l x.term h.2 (by simpa using hn)
    refine ⟨u, fun h0 => by omega, fun e _ he => ?_, by simpa using h3⟩
    cases n with
    | zero => simp at he; subst he; exact h1 rfl
    | succ n => simp at he; exact h2 e (by omega) (by simpa using he)
theorem chk_term : ∀ {l : List Ent} {t : Int}, chkEs t l = true → ∀ e ∈ l, 1 ≤ e.term ∧ e.term ≤ most
  | [], t, h, e, he => by simp at he
  | x :: l, t, h, e, he => by
    simp only [chkEs, Bool.and_eq_true] at h
    rcases List.mem_cons.1 he with rfl | he
    · have := h.1
      simp only [entOk, Bool.and_eq_true, decide_eq_true_eq] at this
      exact ⟨this.1.2.1, this.1.2.2.1⟩
    · exact chk_term h.2 e he
theorem mem_may : ∀ (l : List Ent) (out : List Int), mayL out = true → (∀ e ∈ l, e.kind = 2 → mayL (ofB e.data) = true) → mayL (memF out l) = true
  | [], out, h, _ => h
  | e :: l, out, h, hl => by
    simp only [memF]
    refine mem_may l _ ?_ (fun x hx => hl x (List.mem_cons_of_mem _ hx))
    split
    · rename_i hk; exact hl e (by simp) hk
    · exact h
theorem memF_app (out : List Int) : ∀ (a b : List Ent), memF out (a ++ b) = memF (memF out a) b
  | [], b => rfl
  | e :: a, b => by simp only [List.cons_append, memF]; exact memF_app _ a b
theorem sound_parts {g : Lg} (h : soundL g = true) : (0 ≤ g.index ∧ g.index ≤ most ∧ 0 ≤ g.term ∧ g.term ≤ most ∧ (g.es.length : Int) ≤ most - g.index) ∧ mayL g.mems = true ∧ chkEs g.term g.es = true := by
  simp only [soundL, Bool.and_eq_true, decide_eq_true_eq] at h
  exact ⟨h.1, h.2.1, h.2.2⟩
theorem term_get {g : Lg} {n : Nat} (hn : n ≤ g.es.length) : termL g (g.index + n) = if n = 0 then g.term else ((g.es[n - 1]?).map (·.term)).getD 0 := by
  unfold termL
  by_cases h0 : n = 0
  · rw [if_pos (by omega), if_pos h0]
  · rw [if_neg (by omega), if_neg h0, show (g.index + (n : Int) - g.index - 1).toNat = n - 1 by omega]
theorem compact_sound {g : Lg} (hs : soundL g = true) {i : Int} (hh : hasL g i = true) : soundL (compactL g i) = true := by
  obtain ⟨h1, h2, h3⟩ := sound_parts hs
  have hb := hasL_iff.1 hh
  have hmo : most = 1152921504606846976 := rfl
  obtain ⟨u, k1, k2, k3⟩ := chk_drop (i - g.index).toNat g.es g.term h3 (by omega)
  have ht : termL g i = u := by
    have := term_get (g := g) (n := (i - g.index).toNat) (by omega)
    rw [show g.index + (((i - g.index).toNat : Nat) : Int) = i by omega] at this
    rw [this]
    split
    · rename_i h0; exact (k1 h0).symm
    · rename_i h0
      have hlt : (i - g.index).toNat - 1 < g.es.length := by omega
      have hget := List.getElem?_eq_getElem hlt
      rw [hget]
      exact (k2 _ (by omega) hget).symm
  have htr : 0 ≤ termL g i ∧ termL g i ≤ most := by
    have := term_get (g := g) (n := (i - g.index).toNat) (by omega)
    rw [show g.index + (((i - g.index).toNat : Nat) : Int) = i by omega] at this
    rw [this]
    split
    · omega
    · rename_i h0
      have hlt : (i - g.index).toNat - 1 < g.es.length := by omega
      rw [List.getElem?_eq_getElem hlt]
      have := chk_term h3 _ (List.getElem_mem hlt)
      simp only [Option.map_some, Option.getD_some]
      omega
  simp only [soundL, Bool.and_eq_true, decide_eq_true_eq, compactL, List.length_drop]
  refine ⟨⟨by omega, by omega, htr.1, htr.2, by omega⟩, mem_may _ _ h2 (fun e he => chk_may h3 e (List.mem_of_mem_take he)), ?_⟩
  rw [ht]; exact k3
theorem compact_last {g : Lg} {i : Int} (hh : hasL g i = true) : lastL (compactL g i) = lastL g := by
  have hb := hasL_iff.1 hh
  simp only [lastL, compactL, List.length_drop]; omega
theorem compact_has {g : Lg} {i n : Int} (hh : hasL g i = true) (h1 : i ≤ n) (h2 : n ≤ lastL g) : hasL (compactL g i) n = true ∧ hasL g n = true := by
  have hb := hasL_iff.1 hh
  have hl := compact_last hh
  unfold lastL at h2
  refine ⟨hasL_iff.2 ⟨h1, ?_⟩, hasL_iff.2 ⟨by omega, by omega⟩⟩
  have : lastL (compactL g i) = (compactL g i).index + ((compactL g i).es.length : Int) := rfl
  rw [← this, hl]; unfold lastL; omega
theorem compact_term {g : Lg} {i n : Int} (hh : hasL g i = true) (h1 : i ≤ n) (h2 : n ≤ lastL g) : termL (compactL g i) n = termL g n := by
  have hb := hasL_iff.1 hh
  unfold lastL at h2
  have hdef : termL (compactL g i) n = if n = i then termL g i else (((g.es.drop (i - g.index).toNat)[(n - i - 1).toNat]?).map (·.term)).getD 0 := rfl
  rw [hdef]
  by_cases hn : n = i
  · rw [if_pos hn, hn]
  · rw [if_neg hn]
    unfold termL
    rw [if_neg (by omega), List.getElem?_drop, show (i - g.index).toNat + (n - i - 1).toNat = (n - g.index - 1).toNat by omega]
theorem compact_members {g : Lg} {i n : Int} (hh : hasL g i = true) (h1 : i ≤ n) : membersL (compactL g i) n = membersL g n := by
  have hb := hasL_iff.1 hh
  unfold membersL
  simp only [compactL]
  unfold membersL
  rw [← memF_app]
  congr 1
  rw [show (n - g.index).toNat = (i - g.index).toNat + (n - i).toNat by omega, List.take_add]
theorem compact_slice {g : Lg} {i n : Int} (hh : hasL g i = true) (h1 : i ≤ n) : sliceL (compactL g i) (n + 1) 1 = sliceL g (n + 1) 1 := by
  have hb := hasL_iff.1 hh
  have hl := compact_last hh
  unfold sliceL
  rw [hl]
  by_cases h : n + 1 ≤ lastL g
  · rw [if_pos ⟨by simp only [compactL]; omega, h⟩, if_pos ⟨by omega, h⟩]
    simp only [compactL, List.drop_drop]
    rw [show (i - g.index).toNat + (n + 1 - i - 1).toNat = (n + 1 - g.index - 1).toNat by omega]
  · rw [if_neg (by omega), if_neg (by omega)]
theorem compact_lgok {g : Lg} (hg : LgOk g) (i : Int) : LgOk (compactL g i) :=
  ⟨memb_len g i hg, by simp only [compactL, List.length_drop]; have := hg.e; omega, fun e he => hg.d e (List.mem_of_mem_drop he)⟩
theorem keeps_loop (g : Lg) (hg : LgOk g) (hs : soundL g = true) (i : Int) (hh : hasL g i = true) : ∀ (m : Nat) (n : Int) (E : List Nat), i ≤ n → n + m = lastL g + 1 →
    law18_LogKeeps_J12 0 (.ptr 0 1 0 0) (.bool true) (.ptr 1 1 0 0) (.int .i64 (lastL g)) (.int .i64 n) [.row 4 [g.av], .row 4 [(compactL g i).av]] E = some (.bool true, [], []) := by
  have hsm := sound_small hs
  have h0 := hsm.i0; have h1 := hsm.i1; have hmo : most = 1152921504606846976 := rfl
  have hb := hasL_iff.1 hh
  have hk := compact_lgok hg i
  have hsk := compact_sound hs hh
  intro m
  induction m with
  | zero =>
    intro n E hn h
    refine law18_LogKeeps_J12_of ?_
    have e1 : ¬ (n ≤ lastL g) := by omega
    simp only [List.length_nil, new_lg, new_ent, List.nil_append, List.length_singleton, List.singleton_append, List.cons_append, List.length_cons, Nat.reduceAdd, offA_ptr, offA_ip, Option.bind_some, Nat.zero_add, Nat.add_zero, ld_lg0_i, ld_lg0_t, ld_lg0_m, ld_lg0_e, ld_lg0, ld_ent0_t, ld_ent0_k, ld_ent0_d, ld_ent1_t, ld_ent1_k, ld_ent1_d, ld_ent0, ld_ent1, lenV_ents, lenV_ints, lenV_bys, lss_int, leq_int, gtr_int, geq_int, eql_int, neq_int, add_int, sub_int, splitK_dec, condK_dec, splitK_t, splitK_f, condK_t, condK_f, not_bool, List.drop_succ_cons, List.drop_zero, loadA_ipc, loadA_ent, extA_0, extA_1, Bool.not_true, Bool.not_false, Bool.false_eq_true, if_false, if_true, and_self, and_true, and_false, false_and, ld_ent2_t, ld_ent2_k, ld_ent2_d, neq_nil1, neq_nil2, eql_nil2, nili_eq, ld_base0, ld_base1_i, ld_base1_t, ld_base1_m, new_zlog, extA_2, ld_lg1, ld_lg2, e1, if_false]
    exact endB_good rfl
  | succ m ih =>
    intro n E hn h
    refine law18_LogKeeps_J12_of ?_
    have e1 : n ≤ lastL g := by omega
    have hlast : lastL g = g.index + (g.es.length : Int) := rfl
    have w1 : IntKind.i64.wrap (n + 1) = n + 1 := by rw [wrap64] <;> omega
    obtain ⟨hn1, hn2⟩ := compact_has hh hn e1
    have hme : (membersL g n).length < 2^62 := memb_len g n hg
    have hsl : (sliceL g (n + 1) 1).length < 2^62 := by
      unfold sliceL; split
      · rw [List.length_take, List.length_drop]; have := hg.e; omega
      · simp
    simp only [List.length_nil, new_lg, new_ent, List.nil_append, List.length_singleton, List.singleton_append, List.cons_append, List.length_cons, Nat.reduceAdd, offA_ptr, offA_ip, Option.bind_some, Nat.zero_add, Nat.add_zero, ld_lg0_i, ld_lg0_t, ld_lg0_m, ld_lg0_e, ld_lg0, ld_ent0_t, ld_ent0_k, ld_ent0_d, ld_ent1_t, ld_ent1_k, ld_ent1_d, ld_ent0, ld_ent1, lenV_ents, lenV_ints, lenV_bys, lss_int, leq_int, gtr_int, geq_int, eql_int, neq_int, add_int, sub_int, splitK_dec, condK_dec, splitK_t, splitK_f, condK_t, condK_f, not_bool, List.drop_succ_cons, List.drop_zero, loadA_ipc, loadA_ent, extA_0, extA_1, Bool.not_true, Bool.not_false, Bool.false_eq_true, if_false, if_true, and_self, and_true, and_false, false_and, ld_ent2_t, ld_ent2_k, ld_ent2_d, neq_nil1, neq_nil2, eql_nil2, nili_eq, ld_base0, ld_base1_i, ld_base1_t, ld_base1_m, new_zlog, extA_2, ld_lg1, ld_lg2, e1, if_true, w1]
    rw [callK_ok (by simp) (Term_ok g n hg)]
    simp only [List.length_nil, new_lg, new_ent, List.nil_append, List.length_singleton, List.singleton_append, List.cons_append, List.length_cons, Nat.reduceAdd, offA_ptr, offA_ip, Option.bind_some, Nat.zero_add, Nat.add_zero, ld_lg0_i, ld_lg0_t, ld_lg0_m, ld_lg0_e, ld_lg0, ld_ent0_t, ld_ent0_k, ld_ent0_d, ld_ent1_t, ld_ent1_k, ld_ent1_d, ld_ent0, ld_ent1, lenV_ents, lenV_ints, lenV_bys, lss_int, leq_int, gtr_int, geq_int, eql_int, neq_int, add_int, sub_int, splitK_dec, condK_dec, splitK_t, splitK_f, condK_t, condK_f, not_bool, List.drop_succ_cons, List.drop_zero, loadA_ipc, loadA_ent, extA_0, extA_1, Bool.not_true, Bool.not_false, Bool.false_eq_true, if_false, if_true, and_self, and_true, and_false, false_and, ld_ent2_t, ld_ent2_k, ld_ent2_d, neq_nil1, neq_nil2, eql_nil2, nili_eq, ld_base0, ld_base1_i, ld_base1_t, ld_base1_m, new_zlog, extA_2, ld_lg1, ld_lg2]
    rw [callK_ok (by simp) (Term_ok _ n hk)]
    simp only [List.length_nil, new_lg, new_ent, List.nil_append, List.length_singleton, List.singleton_append, List.cons_append, List.length_cons, Nat.reduceAdd, offA_ptr, offA_ip, Option.bind_some, Nat.zero_add, Nat.add_zero, ld_lg0_i, ld_lg0_t, ld_lg0_m, ld_lg0_e, ld_lg0, ld_ent0_t, ld_ent0_k, ld_ent0_d, ld_ent1_t, ld_ent1_k, ld_ent1_d, ld_ent0, ld_ent1, lenV_ents, lenV_ints, lenV_bys, lss_int, leq_int, gtr_int, geq_int, eql_int, neq_int, add_int, sub_int, splitK_dec, condK_dec, splitK_t, splitK_f, condK_t, condK_f, not_bool, List.drop_succ_cons, List.drop_zero, loadA_ipc, loadA_ent, extA_0, extA_1, Bool.not_true, Bool.not_false, Bool.false_eq_true, if_false, if_true, and_self, and_true, and_false, false_and, ld_ent2_t, ld_ent2_k, ld_ent2_d, neq_nil1, neq_nil2, eql_nil2, nili_eq, ld_base0, ld_base1_i, ld_base1_t, ld_base1_m, new_zlog, extA_2, ld_lg1, ld_lg2, w1]
    rw [callK_ok (by simp) (Slice_ok g (n + 1) 1 hg)]
    simp only [List.length_nil, new_lg, new_ent, List.nil_append, List.length_singleton, List.singleton_append, List.cons_append, List.length_cons, Nat.reduceAdd, offA_ptr, offA_ip, Option.bind_some, Nat.zero_add, Nat.add_zero, ld_lg0_i, ld_lg0_t, ld_lg0_m, ld_lg0_e, ld_lg0, ld_ent0_t, ld_ent0_k, ld_ent0_d, ld_ent1_t, ld_ent1_k, ld_ent1_d, ld_ent0, ld_ent1, lenV_ents, lenV_ints, lenV_bys, lss_int, leq_int, gtr_int, geq_int, eql_int, neq_int, add_int, sub_int, splitK_dec, condK_dec, splitK_t, splitK_f, condK_t, condK_f, not_bool, List.drop_succ_cons, List.drop_zero, loadA_ipc, loadA_ent, extA_0, extA_1, Bool.not_true, Bool.not_false, Bool.false_eq_true, if_false, if_true, and_self, and_true, and_false, false_and, ld_ent2_t, ld_ent2_k, ld_ent2_d, neq_nil1, neq_nil2, eql_nil2, nili_eq, ld_base0, ld_base1_i, ld_base1_t, ld_base1_m, new_zlog, extA_2, ld_lg1, ld_lg2, w1]
    rw [callK_ok (by simp) (Slice_ok _ (n + 1) 1 hk)]
    simp only [List.length_nil, new_lg, new_ent, List.nil_append, List.length_singleton, List.singleton_append, List.cons_append, List.length_cons, Nat.reduceAdd, offA_ptr, offA_ip, Option.bind_some, Nat.zero_add, Nat.add_zero, ld_lg0_i, ld_lg0_t, ld_lg0_m, ld_lg0_e, ld_lg0, ld_ent0_t, ld_ent0_k, ld_ent0_d, ld_ent1_t, ld_ent1_k, ld_ent1_d, ld_ent0, ld_ent1, lenV_ents, lenV_ints, lenV_bys, lss_int, leq_int, gtr_int, geq_int, eql_int, neq_int, add_int, sub_int, splitK_dec, condK_dec, splitK_t, splitK_f, condK_t, condK_f, not_bool, List.drop_succ_cons, List.drop_zero, loadA_ipc, loadA_ent, extA_0, extA_1, Bool.not_true, Bool.not_false, Bool.false_eq_true, if_false, if_true, and_self, and_true, and_false, false_and, ld_ent2_t, ld_ent2_k, ld_ent2_d, neq_nil1, neq_nil2, eql_nil2, nili_eq, ld_base0, ld_base1_i, ld_base1_t, ld_base1_m, new_zlog, extA_2, ld_lg1, ld_lg2]
    rw [callD_ok (by simp) (Members_ok g n hg), callD_ok (by simp) (Members_ok _ n hk)]
    simp only [hs, hsk, hn1, hn2, askedA, compact_term hh hn e1, compact_members hh hn, compact_slice hh hn, List.length_nil, new_lg, new_ent, List.nil_append, List.length_singleton, List.singleton_append, List.cons_append, List.length_cons, Nat.reduceAdd, offA_ptr, offA_ip, Option.bind_some, Nat.zero_add, Nat.add_zero, ld_lg0_i, ld_lg0_t, ld_lg0_m, ld_lg0_e, ld_lg0, ld_ent0_t, ld_ent0_k, ld_ent0_d, ld_ent1_t, ld_ent1_k, ld_ent1_d, ld_ent0, ld_ent1, lenV_ents, lenV_ints, lenV_bys, lss_int, leq_int, gtr_int, geq_int, eql_int, neq_int, add_int, sub_int, splitK_dec, condK_dec, splitK_t, splitK_f, condK_t, condK_f, not_bool, List.drop_succ_cons, List.drop_zero, loadA_ipc, loadA_ent, extA_0, extA_1, Bool.not_true, Bool.not_false, Bool.false_eq_true, if_false, if_true, and_self, and_true, and_false, false_and, ld_ent2_t, ld_ent2_k, ld_ent2_d, neq_nil1, neq_nil2, eql_nil2, nili_eq, ld_base0, ld_base1_i, ld_base1_t, ld_base1_m, new_zlog, extA_2, ld_lg1, ld_lg2]
    rw [callD_ok (by simp) (ref17_Same_ok _ hme)]
    simp only [List.length_nil, new_lg, new_ent, List.nil_append, List.length_singleton, List.singleton_append, List.cons_append, List.length_cons, Nat.reduceAdd, offA_ptr, offA_ip, Option.bind_some, Nat.zero_add, Nat.add_zero, ld_lg0_i, ld_lg0_t, ld_lg0_m, ld_lg0_e, ld_lg0, ld_ent0_t, ld_ent0_k, ld_ent0_d, ld_ent1_t, ld_ent1_k, ld_ent1_d, ld_ent0, ld_ent1, lenV_ents, lenV_ints, lenV_bys, lss_int, leq_int, gtr_int, geq_int, eql_int, neq_int, add_int, sub_int, splitK_dec, condK_dec, splitK_t, splitK_f, condK_t, condK_f, not_bool, List.drop_succ_cons, List.drop_zero, loadA_ipc, loadA_ent, extA_0, extA_1, Bool.not_true, Bool.not_false, Bool.false_eq_true, if_false, if_true, and_self, and_true, and_false, false_and, ld_ent2_t, ld_ent2_k, ld_ent2_d, neq_nil1, neq_nil2, eql_nil2, nili_eq, ld_base0, ld_base1_i, ld_base1_t, ld_base1_m, new_zlog, extA_2, ld_lg1, ld_lg2]
    rw [callD_ok (by simp) (SameEntries_ok _ hsl)]
    simp only [List.length_nil, new_lg, new_ent, List.nil_append, List.length_singleton, List.singleton_append, List.cons_append, List.length_cons, Nat.reduceAdd, offA_ptr, offA_ip, Option.bind_some, Nat.zero_add, Nat.add_zero, ld_lg0_i, ld_lg0_t, ld_lg0_m, ld_lg0_e, ld_lg0, ld_ent0_t, ld_ent0_k, ld_ent0_d, ld_ent1_t, ld_ent1_k, ld_ent1_d, ld_ent0, ld_ent1, lenV_ents, lenV_ints, lenV_bys, lss_int, leq_int, gtr_int, geq_int, eql_int, neq_int, add_int, sub_int, splitK_dec, condK_dec, splitK_t, splitK_f, condK_t, condK_f, not_bool, List.drop_succ_cons, List.drop_zero, loadA_ipc, loadA_ent, extA_0, extA_1, Bool.not_true, Bool.not_false, Bool.false_eq_true, if_false, if_true, and_self, and_true, and_false, false_and, ld_ent2_t, ld_ent2_k, ld_ent2_d, neq_nil1, neq_nil2, eql_nil2, nili_eq, ld_base0, ld_base1_i, ld_base1_t, ld_base1_m, new_zlog, extA_2, ld_lg1, ld_lg2, decide_true]
    exact ih (n + 1) _ (by omega) (by omega)
theorem logKeeps_ok (g : Lg) (i : Int) (hg : LgOk g) : EV C n_law18_LogKeeps [g.av, .int .i64 i] [] = some (.bool true, [], []) := by
  refine law18_LogKeeps_of ?_
  simp only [List.length_nil, new_lg, new_ent, List.nil_append, List.length_singleton, List.singleton_append, List.cons_append, List.length_cons, Nat.reduceAdd, offA_ptr, offA_ip, Option.bind_some, Nat.zero_add, Nat.add_zero, ld_lg0_i, ld_lg0_t, ld_lg0_m, ld_lg0_e, ld_lg0, ld_ent0_t, ld_ent0_k, ld_ent0_d, ld_ent1_t, ld_ent1_k, ld_ent1_d, ld_ent0, ld_ent1, lenV_ents, lenV_ints, lenV_bys, lss_int, leq_int, gtr_int, geq_int, eql_int, neq_int, add_int, sub_int, splitK_dec, condK_dec, splitK_t, splitK_f, condK_t, condK_f, not_bool, List.drop_succ_cons, List.drop_zero, loadA_ipc, loadA_ent, extA_0, extA_1, Bool.not_true, Bool.not_false, Bool.false_eq_true, if_false, if_true, and_self, and_true, and_false, false_and, ld_ent2_t, ld_ent2_k, ld_ent2_d, neq_nil1, neq_nil2, eql_nil2, nili_eq, ld_base0, ld_base1_i, ld_base1_t, ld_base1_m, new_zlog, extA_2, ld_lg1, ld_lg2]
  rw [callK_ok rfl up_ok]
  simp only [List.length_nil, new_lg, new_ent, List.nil_append, List.length_singleton, List.singleton_append, List.cons_append, List.length_cons, Nat.reduceAdd, offA_ptr, offA_ip, Option.bind_some, Nat.zero_add, Nat.add_zero, ld_lg0_i, ld_lg0_t, ld_lg0_m, ld_lg0_e, ld_lg0, ld_ent0_t, ld_ent0_k, ld_ent0_d, ld_ent1_t, ld_ent1_k, ld_ent1_d, ld_ent0, ld_ent1, lenV_ents, lenV_ints, lenV_bys, lss_int, leq_int, gtr_int, geq_int, eql_int, neq_int, add_int, sub_int, splitK_dec, condK_dec, splitK_t, splitK_f, condK_t, condK_f, not_bool, List.drop_succ_cons, List.drop_zero, loadA_ipc, loadA_ent, extA_0, extA_1, Bool.not_true, Bool.not_false, Bool.false_eq_true, if_false, if_true, and_self, and_true, and_false, false_and, ld_ent2_t, ld_ent2_k, ld_ent2_d, neq_nil1, neq_nil2, eql_nil2, nili_eq, ld_base0, ld_base1_i, ld_base1_t, ld_base1_m, new_zlog, extA_2, ld_lg1, ld_lg2]
  rw [callK_ok (by simp) (Light_ok g)]
  simp only [List.length_nil, new_lg, new_ent, List.nil_append, List.length_singleton, List.singleton_append, List.cons_append, List.length_cons, Nat.reduceAdd, offA_ptr, offA_ip, Option.bind_some, Nat.zero_add, Nat.add_zero, ld_lg0_i, ld_lg0_t, ld_lg0_m, ld_lg0_e, ld_lg0, ld_ent0_t, ld_ent0_k, ld_ent0_d, ld_ent1_t, ld_ent1_k, ld_ent1_d, ld_ent0, ld_ent1, lenV_ents, lenV_ints, lenV_bys, lss_int, leq_int, gtr_int, geq_int, eql_int, neq_int, add_int, sub_int, splitK_dec, condK_dec, splitK_t, splitK_f, condK_t, condK_f, not_bool, List.drop_succ_cons, List.drop_zero, loadA_ipc, loadA_ent, extA_0, extA_1, Bool.not_true, Bool.not_false, Bool.false_eq_true, if_false, if_true, and_self, and_true, and_false, false_and, ld_ent2_t, ld_ent2_k, ld_ent2_d, neq_nil1, neq_nil2, eql_nil2, nili_eq, ld_base0, ld_base1_i, ld_base1_t, ld_base1_m, new_zlog, extA_2, ld_lg1, ld_lg2]
  rw [callK_ok (by simp) (Compact_ok g i hg)]
  have hst : ∀ (k : Lg) (o : AObj) (K : List AObj → List Nat → Option R3), stoK 4 (.ptr 1 1 0 0) k.av [o, .row 4 [zlog]] K = K [o, .row 4 [k.av]] [] := fun k o K => sto_lg k rfl
  unfold compactA
  by_cases hs : soundL g = true
  case neg =>
    simp only [Bool.not_eq_true] at hs
    simp only [hs, List.length_nil, new_lg, new_ent, List.nil_append, List.length_singleton, List.singleton_append, List.cons_append, List.length_cons, Nat.reduceAdd, offA_ptr, offA_ip, Option.bind_some, Nat.zero_add, Nat.add_zero, ld_lg0_i, ld_lg0_t, ld_lg0_m, ld_lg0_e, ld_lg0, ld_ent0_t, ld_ent0_k, ld_ent0_d, ld_ent1_t, ld_ent1_k, ld_ent1_d, ld_ent0, ld_ent1, lenV_ents, lenV_ints, lenV_bys, lss_int, leq_int, gtr_int, geq_int, eql_int, neq_int, add_int, sub_int, splitK_dec, condK_dec, splitK_t, splitK_f, condK_t, condK_f, not_bool, List.drop_succ_cons, List.drop_zero, loadA_ipc, loadA_ent, extA_0, extA_1, Bool.not_true, Bool.not_false, Bool.false_eq_true, if_false, if_true, and_self, and_true, and_false, false_and, ld_ent2_t, ld_ent2_k, ld_ent2_d, neq_nil1, neq_nil2, eql_nil2, nili_eq, ld_base0, ld_base1_i, ld_base1_t, ld_base1_m, new_zlog, extA_2, ld_lg1, ld_lg2, hst]
    by_cases hl : lightL g = true
    · simp only [hl, List.length_nil, new_lg, new_ent, List.nil_append, List.length_singleton, List.singleton_append, List.cons_append, List.length_cons, Nat.reduceAdd, offA_ptr, offA_ip, Option.bind_some, Nat.zero_add, Nat.add_zero, ld_lg0_i, ld_lg0_t, ld_lg0_m, ld_lg0_e, ld_lg0, ld_ent0_t, ld_ent0_k, ld_ent0_d, ld_ent1_t, ld_ent1_k, ld_ent1_d, ld_ent0, ld_ent1, lenV_ents, lenV_ints, lenV_bys, lss_int, leq_int, gtr_int, geq_int, eql_int, neq_int, add_int, sub_int, splitK_dec, condK_dec, splitK_t, splitK_f, condK_t, condK_f, not_bool, List.drop_succ_cons, List.drop_zero, loadA_ipc, loadA_ent, extA_0, extA_1, Bool.not_true, Bool.not_false, Bool.false_eq_true, if_false, if_true, and_self, and_true, and_false, false_and, ld_ent2_t, ld_ent2_k, ld_ent2_d, neq_nil1, neq_nil2, eql_nil2, nili_eq, ld_base0, ld_base1_i, ld_base1_t, ld_base1_m, new_zlog, extA_2, ld_lg1, ld_lg2, neq_code]; exact endB_good rfl
    · simp only [Bool.not_eq_true] at hl
      simp only [hl, List.length_nil, new_lg, new_ent, List.nil_append, List.length_singleton, List.singleton_append, List.cons_append, List.length_cons, Nat.reduceAdd, offA_ptr, offA_ip, Option.bind_some, Nat.zero_add, Nat.add_zero, ld_lg0_i, ld_lg0_t, ld_lg0_m, ld_lg0_e, ld_lg0, ld_ent0_t, ld_ent0_k, ld_ent0_d, ld_ent1_t, ld_ent1_k, ld_ent1_d, ld_ent0, ld_ent1, lenV_ents, lenV_ints, lenV_bys, lss_int, leq_int, gtr_int, geq_int, eql_int, neq_int, add_int, sub_int, splitK_dec, condK_dec, splitK_t, splitK_f, condK_t, condK_f, not_bool, List.drop_succ_cons, List.drop_zero, loadA_ipc, loadA_ent, extA_0, extA_1, Bool.not_true, Bool.not_false, Bool.false_eq_true, if_false, if_true, and_self, and_true, and_false, false_and, ld_ent2_t, ld_ent2_k, ld_ent2_d, neq_nil1, neq_nil2, eql_nil2, nili_eq, ld_base0, ld_base1_i, ld_base1_t, ld_base1_m, new_zlog, extA_2, ld_lg1, ld_lg2]; exact endB_good rfl
  case pos =>
  by_cases hh : hasL g i = true
  case neg =>
    simp only [Bool.not_eq_true] at hh
    simp only [hs, hh, List.length_nil, new_lg, new_ent, List.nil_append, List.length_singleton, List.singleton_append, List.cons_append, List.length_cons, Nat.reduceAdd, offA_ptr, offA_ip, Option.bind_some, Nat.zero_add, Nat.add_zero, ld_lg0_i, ld_lg0_t, ld_lg0_m, ld_lg0_e, ld_lg0, ld_ent0_t, ld_ent0_k, ld_ent0_d, ld_ent1_t, ld_ent1_k, ld_ent1_d, ld_ent0, ld_ent1, lenV_ents, lenV_ints, lenV_bys, lss_int, leq_int, gtr_int, geq_int, eql_int, neq_int, add_int, sub_int, splitK_dec, condK_dec, splitK_t, splitK_f, condK_t, condK_f, not_bool, List.drop_succ_cons, List.drop_zero, loadA_ipc, loadA_ent, extA_0, extA_1, Bool.not_true, Bool.not_false, Bool.false_eq_true, if_false, if_true, and_self, and_true, and_false, false_and, ld_ent2_t, ld_ent2_k, ld_ent2_d, neq_nil1, neq_nil2, eql_nil2, nili_eq, ld_base0, ld_base1_i, ld_base1_t, ld_base1_m, new_zlog, extA_2, ld_lg1, ld_lg2, hst]
    by_cases hl : lightL g = true
    · simp only [hl, List.length_nil, new_lg, new_ent, List.nil_append, List.length_singleton, List.singleton_append, List.cons_append, List.length_cons, Nat.reduceAdd, offA_ptr, offA_ip, Option.bind_some, Nat.zero_add, Nat.add_zero, ld_lg0_i, ld_lg0_t, ld_lg0_m, ld_lg0_e, ld_lg0, ld_ent0_t, ld_ent0_k, ld_ent0_d, ld_ent1_t, ld_ent1_k, ld_ent1_d, ld_ent0, ld_ent1, lenV_ents, lenV_ints, lenV_bys, lss_int, leq_int, gtr_int, geq_int, eql_int, neq_int, add_int, sub_int, splitK_dec, condK_dec, splitK_t, splitK_f, condK_t, condK_f, not_bool, List.drop_succ_cons, List.drop_zero, loadA_ipc, loadA_ent, extA_0, extA_1, Bool.not_true, Bool.not_false, Bool.false_eq_true, if_false, if_true, and_self, and_true, and_false, false_and, ld_ent2_t, ld_ent2_k, ld_ent2_d, neq_nil1, neq_nil2, eql_nil2, nili_eq, ld_base0, ld_base1_i, ld_base1_t, ld_base1_m, new_zlog, extA_2, ld_lg1, ld_lg2, neq_code]; exact endB_good rfl
    · simp only [Bool.not_eq_true] at hl
      simp only [hl, List.length_nil, new_lg, new_ent, List.nil_append, List.length_singleton, List.singleton_append, List.cons_append, List.length_cons, Nat.reduceAdd, offA_ptr, offA_ip, Option.bind_some, Nat.zero_add, Nat.add_zero, ld_lg0_i, ld_lg0_t, ld_lg0_m, ld_lg0_e, ld_lg0, ld_ent0_t, ld_ent0_k, ld_ent0_d, ld_ent1_t, ld_ent1_k, ld_ent1_d, ld_ent0, ld_ent1, lenV_ents, lenV_ints, lenV_bys, lss_int, leq_int, gtr_int, geq_int, eql_int, neq_int, add_int, sub_int, splitK_dec, condK_dec, splitK_t, splitK_f, condK_t, condK_f, not_bool, List.drop_succ_cons, List.drop_zero, loadA_ipc, loadA_ent, extA_0, extA_1, Bool.not_true, Bool.not_false, Bool.false_eq_true, if_false, if_true, and_self, and_true, and_false, false_and, ld_ent2_t, ld_ent2_k, ld_ent2_d, neq_nil1, neq_nil2, eql_nil2, nili_eq, ld_base0, ld_base1_i, ld_base1_t, ld_base1_m, new_zlog, extA_2, ld_lg1, ld_lg2]; exact endB_good rfl
  case pos =>
  simp only [hs, hh, List.length_nil, new_lg, new_ent, List.nil_append, List.length_singleton, List.singleton_append, List.cons_append, List.length_cons, Nat.reduceAdd, offA_ptr, offA_ip, Option.bind_some, Nat.zero_add, Nat.add_zero, ld_lg0_i, ld_lg0_t, ld_lg0_m, ld_lg0_e, ld_lg0, ld_ent0_t, ld_ent0_k, ld_ent0_d, ld_ent1_t, ld_ent1_k, ld_ent1_d, ld_ent0, ld_ent1, lenV_ents, lenV_ints, lenV_bys, lss_int, leq_int, gtr_int, geq_int, eql_int, neq_int, add_int, sub_int, splitK_dec, condK_dec, splitK_t, splitK_f, condK_t, condK_f, not_bool, List.drop_succ_cons, List.drop_zero, loadA_ipc, loadA_ent, extA_0, extA_1, Bool.not_true, Bool.not_false, Bool.false_eq_true, if_false, if_true, and_self, and_true, and_false, false_and, ld_ent2_t, ld_ent2_k, ld_ent2_d, neq_nil1, neq_nil2, eql_nil2, nili_eq, ld_base0, ld_base1_i, ld_base1_t, ld_base1_m, new_zlog, extA_2, ld_lg1, ld_lg2, hst]
  by_cases hl : lightL g = true
  case neg =>
    simp only [Bool.not_eq_true] at hl
    simp only [hl, List.length_nil, new_lg, new_ent, List.nil_append, List.length_singleton, List.singleton_append, List.cons_append, List.length_cons, Nat.reduceAdd, offA_ptr, offA_ip, Option.bind_some, Nat.zero_add, Nat.add_zero, ld_lg0_i, ld_lg0_t, ld_lg0_m, ld_lg0_e, ld_lg0, ld_ent0_t, ld_ent0_k, ld_ent0_d, ld_ent1_t, ld_ent1_k, ld_ent1_d, ld_ent0, ld_ent1, lenV_ents, lenV_ints, lenV_bys, lss_int, leq_int, gtr_int, geq_int, eql_int, neq_int, add_int, sub_int, splitK_dec, condK_dec, splitK_t, splitK_f, condK_t, condK_f, not_bool, List.drop_succ_cons, List.drop_zero, loadA_ipc, loadA_ent, extA_0, extA_1, Bool.not_true, Bool.not_false, Bool.false_eq_true, if_false, if_true, and_self, and_true, and_false, false_and, ld_ent2_t, ld_ent2_k, ld_ent2_d, neq_nil1, neq_nil2, eql_nil2, nili_eq, ld_base0, ld_base1_i, ld_base1_t, ld_base1_m, new_zlog, extA_2, ld_lg1, ld_lg2]; exact endB_good rfl
  case pos =>
  have hk := compact_lgok hg i
  have hsk := compact_sound hs hh
  have hb := hasL_iff.1 hh
  have hla : lastL g = g.index + (g.es.length : Int) := rfl
  have hll := compact_last hh
  have htt := compact_term hh (show i ≤ lastL g by omega) (Int.le_refl _)
  simp only [hl, List.length_nil, new_lg, new_ent, List.nil_append, List.length_singleton, List.singleton_append, List.cons_append, List.length_cons, Nat.reduceAdd, offA_ptr, offA_ip, Option.bind_some, Nat.zero_add, Nat.add_zero, ld_lg0_i, ld_lg0_t, ld_lg0_m, ld_lg0_e, ld_lg0, ld_ent0_t, ld_ent0_k, ld_ent0_d, ld_ent1_t, ld_ent1_k, ld_ent1_d, ld_ent0, ld_ent1, lenV_ents, lenV_ints, lenV_bys, lss_int, leq_int, gtr_int, geq_int, eql_int, neq_int, add_int, sub_int, splitK_dec, condK_dec, splitK_t, splitK_f, condK_t, condK_f, not_bool, List.drop_succ_cons, List.drop_zero, loadA_ipc, loadA_ent, extA_0, extA_1, Bool.not_true, Bool.not_false, Bool.false_eq_true, if_false, if_true, and_self, and_true, and_false, false_and, ld_ent2_t, ld_ent2_k, ld_ent2_d, neq_nil1, neq_nil2, eql_nil2, nili_eq, ld_base0, ld_base1_i, ld_base1_t, ld_base1_m, new_zlog, extA_2, ld_lg1, ld_lg2]
  rw [callK_ok (by simp) (Check_ok' _ hk)]
  simp only [checkA, hsk, List.length_nil, new_lg, new_ent, List.nil_append, List.length_singleton, List.singleton_append, List.cons_append, List.length_cons, Nat.reduceAdd, offA_ptr, offA_ip, Option.bind_some, Nat.zero_add, Nat.add_zero, ld_lg0_i, ld_lg0_t, ld_lg0_m, ld_lg0_e, ld_lg0, ld_ent0_t, ld_ent0_k, ld_ent0_d, ld_ent1_t, ld_ent1_k, ld_ent1_d, ld_ent0, ld_ent1, lenV_ents, lenV_ints, lenV_bys, lss_int, leq_int, gtr_int, geq_int, eql_int, neq_int, add_int, sub_int, splitK_dec, condK_dec, splitK_t, splitK_f, condK_t, condK_f, not_bool, List.drop_succ_cons, List.drop_zero, loadA_ipc, loadA_ent, extA_0, extA_1, Bool.not_true, Bool.not_false, Bool.false_eq_true, if_false, if_true, and_self, and_true, and_false, false_and, ld_ent2_t, ld_ent2_k, ld_ent2_d, neq_nil1, neq_nil2, eql_nil2, nili_eq, ld_base0, ld_base1_i, ld_base1_t, ld_base1_m, new_zlog, extA_2, ld_lg1, ld_lg2]
  rw [callK_ok (by simp) (Last_ok g hg)]
  simp only [List.length_nil, new_lg, new_ent, List.nil_append, List.length_singleton, List.singleton_append, List.cons_append, List.length_cons, Nat.reduceAdd, offA_ptr, offA_ip, Option.bind_some, Nat.zero_add, Nat.add_zero, ld_lg0_i, ld_lg0_t, ld_lg0_m, ld_lg0_e, ld_lg0, ld_ent0_t, ld_ent0_k, ld_ent0_d, ld_ent1_t, ld_ent1_k, ld_ent1_d, ld_ent0, ld_ent1, lenV_ents, lenV_ints, lenV_bys, lss_int, leq_int, gtr_int, geq_int, eql_int, neq_int, add_int, sub_int, splitK_dec, condK_dec, splitK_t, splitK_f, condK_t, condK_f, not_bool, List.drop_succ_cons, List.drop_zero, loadA_ipc, loadA_ent, extA_0, extA_1, Bool.not_true, Bool.not_false, Bool.false_eq_true, if_false, if_true, and_self, and_true, and_false, false_and, ld_ent2_t, ld_ent2_k, ld_ent2_d, neq_nil1, neq_nil2, eql_nil2, nili_eq, ld_base0, ld_base1_i, ld_base1_t, ld_base1_m, new_zlog, extA_2, ld_lg1, ld_lg2]
  rw [callK_ok (by simp) (Last_ok _ hk)]
  simp only [hs, hsk, hll, htt, List.length_nil, new_lg, new_ent, List.nil_append, List.length_singleton, List.singleton_append, List.cons_append, List.length_cons, Nat.reduceAdd, offA_ptr, offA_ip, Option.bind_some, Nat.zero_add, Nat.add_zero, ld_lg0_i, ld_lg0_t, ld_lg0_m, ld_lg0_e, ld_lg0, ld_ent0_t, ld_ent0_k, ld_ent0_d, ld_ent1_t, ld_ent1_k, ld_ent1_d, ld_ent0, ld_ent1, lenV_ents, lenV_ints, lenV_bys, lss_int, leq_int, gtr_int, geq_int, eql_int, neq_int, add_int, sub_int, splitK_dec, condK_dec, splitK_t, splitK_f, condK_t, condK_f, not_bool, List.drop_succ_cons, List.drop_zero, loadA_ipc, loadA_ent, extA_0, extA_1, Bool.not_true, Bool.not_false, Bool.false_eq_true, if_false, if_true, and_self, and_true, and_false, false_and, ld_ent2_t, ld_ent2_k, ld_ent2_d, neq_nil1, neq_nil2, eql_nil2, nili_eq, ld_base0, ld_base1_i, ld_base1_t, ld_base1_m, new_zlog, extA_2, ld_lg1, ld_lg2, decide_true]
  exact keeps_loop g hg hs i hh (lastL g + 1 - i).toNat i _ (by omega) (by omega)
/-! ### the arguments, with what bounds them -/
theorem ty_bytesB {B f : Nat} {cs : List AV} (h : tyC Try.prog B f 22 cs) : ∃ l : List UInt8, cs = [bys l] ∧ l.length ≤ B := by
  obtain ⟨l, h1, h2⟩ := ty_slice (g := u8) Try.underlying22 h fun f cs h => by
    obtain ⟨b, rfl⟩ := ty_u8 Try.underlying5 h
    exact ⟨b, by rw [agT_f Try.underlying5 rfl]; rfl⟩
  have : Try.prog.bytesOf 5 = 1 := by kernel_rfl
  rw [this] at h2
  exact ⟨l, h1, by omega⟩
theorem ty_intsB {B f : Nat} {cs : List AV} (h : tyC Try.prog B f 36 cs) : ∃ l : List Int, cs = [ints l] ∧ l.length ≤ B := by
  obtain ⟨l, h1, h2⟩ := ty_slice (g := i64) Try.underlying36 h fun f cs h => by
    obtain ⟨n, rfl⟩ := ty_i64 h
    exact ⟨n, by rw [agT_f Try.underlying3 rfl]; rfl⟩
  have : Try.prog.bytesOf 3 = 8 := by kernel_rfl
  rw [this] at h2
  exact ⟨l, h1, by omega⟩
theorem ty_entsB {B f : Nat} {cs : List AV} (h : tyC Try.prog B f 39 cs) : ∃ l : List Ent, cs = [ents l] ∧ l.length ≤ B ∧ ∀ e ∈ l, e.data.length ≤ B := by
  obtain ⟨l, h1, h2⟩ := ty_slice (g := fun e : { e : Ent // e.data.length ≤ B } => e.1.av) Try.underlying39 h fun f cs h => by
    obtain ⟨f', css, rfl, h2⟩ := ty_struct Try.underlying57 h
    obtain ⟨c1, _, rfl, ⟨k1, _⟩, h2⟩ := forall2_1 h2
    obtain ⟨c2, _, rfl, ⟨k2, _⟩, h2⟩ := forall2_1 h2
    obtain ⟨c3, _, rfl, ⟨k3, _⟩, h2⟩ := forall2_1 h2
    obtain rfl := forall2_0 h2
    obtain ⟨t, rfl⟩ := ty_i64 k1
    obtain ⟨k, rfl⟩ := ty_i64 k2
    obtain ⟨d, rfl, hd⟩ := ty_bytesB k3
    have ha : agT Try.prog 57 = true := by unfold agT; rw [Try.underlying57]
    exact ⟨⟨⟨t, k, d⟩, hd⟩, by rw [ha]; rfl⟩
  have : Try.prog.bytesOf 57 = 40 := by kernel_rfl
  rw [this] at h2
  refine ⟨l.map (·.1), by rw [h1]; simp [ents], by rw [List.length_map]; omega, fun e he => ?_⟩
  obtain ⟨x, _, rfl⟩ := List.mem_map.1 he
  exact x.2
theorem ty_lgB {B f : Nat} {cs : List AV} {a : AV} (hB : B < 2^40) (e : a = mkE (agT Try.prog 41) cs) (h : tyC Try.prog B f 41 cs) : ∃ g : Lg, a = g.av ∧ LgOk g := by
  obtain ⟨f', css, rfl, h2⟩ := ty_struct Try.underlying41 h
  obtain ⟨c1, _, rfl, ⟨k1, _⟩, h2⟩ := forall2_1 h2
  obtain ⟨c2, _, rfl, ⟨k2, _⟩, h2⟩ := forall2_1 h2
  obtain rfl := forall2_0 h2
  obtain ⟨es, rfl, he1, he2⟩ := ty_entsB k2
  obtain ⟨f'', css, rfl, g2⟩ := ty_struct Try.underlying38 k1
  obtain ⟨c1, _, rfl, ⟨m1, _⟩, g2⟩ := forall2_1 g2
  obtain ⟨c2, _, rfl, ⟨m2, _⟩, g2⟩ := forall2_1 g2
  obtain ⟨c3, _, rfl, ⟨m3, _⟩, g2⟩ := forall2_1 g2
  obtain rfl := forall2_0 g2
  obtain ⟨i, rfl⟩ := ty_i64 m1
  obtain ⟨t, rfl⟩ := ty_i64 m2
  obtain ⟨l, rfl, hl⟩ := ty_intsB m3
  have ha : agT Try.prog 41 = true := by unfold agT; rw [Try.underlying41]
  refine ⟨⟨i, t, l, es⟩, by rw [e, ha]; rfl, ⟨?_, ?_, fun x hx => ?_⟩⟩
  · show l.length < 2^62; omega
  · show es.length < 2^40; omega
  · have := he2 x hx; omega
theorem logKeeps_law {a b : AV} {f f1 : Nat} {l l1 : List AV} (e : a = mkE (agT Try.prog 41) l) (h : tyC Try.prog (4096 * 1048576) f 41 l) (e1 : b = mkE (agT Try.prog 3) l1) (h1 : tyC Try.prog (4096 * 1048576) f1 3 l1) :
    EV C n_law18_LogKeeps [a, b] [] = some (.bool true, [], []) := by
  obtain ⟨g, rfl, hg⟩ := ty_lgB (by decide) e h
  obtain ⟨i, rfl⟩ := ty_i64' e1 h1
  exact logKeeps_ok g i hg
end Go.Pm

