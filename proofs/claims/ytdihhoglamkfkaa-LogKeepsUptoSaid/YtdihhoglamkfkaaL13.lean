/- A part of the proof: what the functions of the program answer, as plain lists and numbers. -/
import Derived.Test.YtdihhoglamkfkaaL12
import Derived.Test.YtdihhoglamkfkaaL11
namespace Go.Pm
open Go.Proofs
set_option linter.unusedVariables false
set_option linter.unusedSimpArgs false
theorem logMerges_law {B : Nat} {a b c : AV} {f f1 f2 : Nat} {l l1 l2 : List AV} (e : a = mkE (agT Try.prog 41) l) (h : tyC Try.prog B f 41 l) (e1 : b = mkE (agT Try.prog 3) l1) (h1 : tyC Try.prog B f1 3 l1) (e2 : c = mkE (agT Try.prog 39) l2) (h2 : tyC Try.prog B f2 39 l2) :
    EV C n_law18_LogMerges [a, b, c] [] = some (.bool true, [], []) := by
  obtain ⟨g, rfl⟩ := ty_lg e h
  obtain ⟨i, rfl⟩ := ty_i64' e1 h1
  obtain ⟨n, rfl⟩ := ty_ents' e2 h2
  exact logMerges_ok g i n
/-! ### LogAgain -/
theorem mch_get : ∀ (a e : List Ent) (i : Nat), i < mch a e → ∃ x y, a[i]? = some x ∧ e[i]? = some y ∧ x.term = y.term
  | [], e, i, h => by simp [mch] at h
  | x :: xs, [], i, h => by simp [mch] at h
  | x :: xs, y :: ys, i, h => by
    simp only [mch] at h
    split at h
    · rename_i ht
      cases i with
      | zero => exact ⟨x, y, rfl, rfl, ht⟩
      | succ i =>
        obtain ⟨u, v, h1, h2, h3⟩ := mch_get xs ys i (by omega)
        exact ⟨u, v, by simpa using h1, by simpa using h2, h3⟩
    · omega
theorem mch_join : ∀ (a e : List Ent), mch (a.take (mch a e) ++ e.drop (mch a e)) e = e.length
  | a, [] => by have := (mch_le (a.take (mch a []) ++ [].drop (mch a [])) []).2; simp at this; simpa using this
  | [], y :: ys => by
    have := mch_join [] ys
    simp only [mch] at this ⊢
    simp only [List.take_zero, List.nil_append, List.drop_zero, mch, if_true] at this ⊢
    have h2 : ∀ (l : List Ent), mch l l = l.length := fun l => by
      induction l with
      | nil => rfl
      | cons z l ih => simp [mch, ih]
    rw [h2]; simp
  | x :: xs, y :: ys => by
    have ih := mch_join xs ys
    have h2 : ∀ (l : List Ent), mch l l = l.length := fun l => by
      induction l with
      | nil => rfl
      | cons z l ih => simp [mch, ih]
    by_cases ht : x.term = y.term
    · simp only [mch, if_pos ht, List.take_succ_cons, List.drop_succ_cons, List.cons_append, ih, List.length_cons]
    · simp only [mch, if_neg ht, List.take_zero, List.nil_append, List.drop_zero, if_true, h2, List.length_cons]
/-- what was merged -/
structure Merged (g k : Lg) (p : Nat) (e : List Ent) (pos : Int) : Prop where
  ok : LgOk k
  sound : soundL k = true
  small : k.es.length < 2^40
  idx : k.index = g.index
  trm : k.term = g.term
  pl : p ≤ k.es.length
  full : mch (k.es.drop p) e = e.length
  pre : ∀ n : Nat, (g.index + n < pos) → n ≤ k.es.length → n ≤ g.es.length ∧ ∀ j, j < n → ∃ x, g.es[j]? = some x ∧ k.es[j]? = some x
theorem merged {g : Lg} (hg : LgOk g) (hge : g.es.length < 2^39) (hs : soundL g = true) {e : List Ent} (he : e.length < 2^39) (hd : lightP e) {p : Nat} (hp : p ≤ g.es.length) (h0 : (mergeK g p e (mch (g.es.drop p) e)).2.2 = 0) :
    Merged g (mergeK g p e (mch (g.es.drop p) e)).1 p e (mergeK g p e (mch (g.es.drop p) e)).2.1 := by
  have hml := mch_le (g.es.drop p) e
  rw [List.length_drop] at hml
  have hmj := mch_join (g.es.drop p) e
  generalize hi : mch (g.es.drop p) e = i at *
  unfold mergeK at h0 ⊢
  split at h0
  · rename_i hie
    simp only [hie, if_true]
    refine ⟨hg, hs, by omega, rfl, rfl, hp, by omega, fun n hn hnl => ⟨hnl, fun j hj => ?_⟩⟩
    have : j < g.es.length := by omega
    exact ⟨g.es[j], List.getElem?_eq_getElem this, List.getElem?_eq_getElem this⟩
  · rename_i hie
    simp only [hie, if_false]
    split at h0
    · rename_i hsj
      simp only [hsj, if_true]
      have hlen : (joinL g p e i).es.length = p + i + (e.length - i) := by
        simp only [joinL, List.length_append, List.length_take, List.length_drop]; omega
      have hpre : ∀ j, j < p + i → ∃ x, g.es[j]? = some x ∧ (joinL g p e i).es[j]? = some x := fun j hj => by
        have hjg : j < g.es.length := by omega
        refine ⟨g.es[j], List.getElem?_eq_getElem hjg, ?_⟩
        simp only [joinL]
        rw [List.getElem?_append_left (by rw [List.length_take]; omega), List.getElem?_take, if_pos hj, List.getElem?_eq_getElem hjg]
      refine ⟨join_ok hg he hge hd p i, hsj, by omega, rfl, rfl, by omega, ?_, fun n hn hnl => ⟨by omega, fun j hj => hpre j (by omega)⟩⟩
      have : (joinL g p e i).es.drop p = (g.es.drop p).take i ++ e.drop i := by
        simp only [joinL]
        rw [List.drop_append_of_le_length (by rw [List.length_take]; omega), List.drop_take, show p + i - p = i by omega]
      rw [this]; exact hmj
    · simp at h0
theorem again_terms (g k : Lg) (prev : Int) (e : List Ent) (pos : Int) (hp : g.index ≤ prev) (hm : Merged g k (prev - g.index).toNat e pos) (hsg : Small g) (hgo : LgOk g) (hsoundg : soundL g = true) (he : e.length < 2^39) (b : AV) :
    ∀ (m : Nat) (n : Nat) (E : List Nat) (m2 : AV), n + m = k.es.length + 1 → law18_LogAgain_J19 0 (.ptr 0 1 0 0) (.bool true) (.ptr 1 1 0 0) (.int .i64 pos) (.int .i64 (lastL k)) (.int .i64 (k.index + n)) [.row 4 [g.av], .row 4 [k.av], .row 4 [m2]] E = some (.bool true, [], []) := by
  have hsk := sound_small hm.sound
  have h0 := hsk.i0; have h1 := hsk.i1; have hmo : most = 1152921504606846976 := rfl
  have hidx := hm.idx
  intro m
  induction m with
  | zero =>
    intro n E m2 h
    refine law18_LogAgain_J19_of ?_
    have e1 : ¬ (k.index + (n : Int) ≤ lastL k) := by unfold lastL; omega
    simp only [List.length_nil, new_lg, new_ent, List.nil_append, List.length_singleton, List.singleton_append, List.cons_append, List.length_cons, Nat.reduceAdd, offA_ptr, offA_ip, Option.bind_some, Nat.zero_add, Nat.add_zero, ld_lg0_i, ld_lg0_t, ld_lg0_m, ld_lg0_e, ld_lg0, ld_ent0_t, ld_ent0_k, ld_ent0_d, ld_ent1_t, ld_ent1_k, ld_ent1_d, ld_ent0, ld_ent1, lenV_ents, lenV_ints, lenV_bys, lss_int, leq_int, gtr_int, geq_int, eql_int, neq_int, add_int, sub_int, splitK_dec, condK_dec, splitK_t, splitK_f, condK_t, condK_f, not_bool, List.drop_succ_cons, List.drop_zero, loadA_ipc, loadA_ent, extA_0, extA_1, Bool.not_true, Bool.not_false, Bool.false_eq_true, if_false, if_true, and_self, and_true, and_false, false_and, ld_ent2_t, ld_ent2_k, ld_ent2_d, neq_nil1, neq_nil2, eql_nil2, nili_eq, ld_base0, ld_base1_i, ld_base1_t, ld_base1_m, new_zlog, extA_2, ld_lg1, ld_lg2]
    split
    · exact endB_good rfl
    · exact endB_good rfl
  | succ m ih =>
    intro n E m2 h
    refine law18_LogAgain_J19_of ?_
    have e1 : (k.index + (n : Int) ≤ lastL k) := by unfold lastL; omega
    simp only [List.length_nil, new_lg, new_ent, List.nil_append, List.length_singleton, List.singleton_append, List.cons_append, List.length_cons, Nat.reduceAdd, offA_ptr, offA_ip, Option.bind_some, Nat.zero_add, Nat.add_zero, ld_lg0_i, ld_lg0_t, ld_lg0_m, ld_lg0_e, ld_lg0, ld_ent0_t, ld_ent0_k, ld_ent0_d, ld_ent1_t, ld_ent1_k, ld_ent1_d, ld_ent0, ld_ent1, lenV_ents, lenV_ints, lenV_bys, lss_int, leq_int, gtr_int, geq_int, eql_int, neq_int, add_int, sub_int, splitK_dec, condK_dec, splitK_t, splitK_f, condK_t, condK_f, not_bool, List.drop_succ_cons, List.drop_zero, loadA_ipc, loadA_ent, extA_0, extA_1, Bool.not_true, Bool.not_false, Bool.false_eq_true, if_false, if_true, and_self, and_true, and_false, false_and, ld_ent2_t, ld_ent2_k, ld_ent2_d, neq_nil1, neq_nil2, eql_nil2, nili_eq, ld_base0, ld_base1_i, ld_base1_t, ld_base1_m, new_zlog, extA_2, ld_lg1, ld_lg2]
    split
    · rename_i hlt
      obtain ⟨hng, hpre⟩ := hm.pre n (by omega) (by omega)
      have hhg : hasL g (k.index + n) = true := hasL_iff.2 (by omega)
      have hhk : hasL k (k.index + n) = true := hasL_iff.2 (by omega)
      have hterm : termL g (k.index + n) = termL k (k.index + n) := by
        unfold termL
        by_cases hn0 : n = 0
        · subst hn0
          rw [if_pos (by omega), if_pos (by omega), hm.trm]
        · rw [if_neg (by omega), if_neg (by omega)]
          obtain ⟨x, hx1, hx2⟩ := hpre (n - 1) (by omega)
          rw [show (k.index + (n : Int) - g.index - 1).toNat = n - 1 by omega, show (k.index + (n : Int) - k.index - 1).toNat = n - 1 by omega, hx1, hx2]
      have w1 : IntKind.i64.wrap (k.index + (n : Int) + 1) = k.index + ((n + 1 : Nat) : Int) := by rw [wrap64] <;> omega
      rw [callK_ok (by simp) (Term_ok g _ hgo)]
      simp only [List.length_nil, new_lg, new_ent, List.nil_append, List.length_singleton, List.singleton_append, List.cons_append, List.length_cons, Nat.reduceAdd, offA_ptr, offA_ip, Option.bind_some, Nat.zero_add, Nat.add_zero, ld_lg0_i, ld_lg0_t, ld_lg0_m, ld_lg0_e, ld_lg0, ld_ent0_t, ld_ent0_k, ld_ent0_d, ld_ent1_t, ld_ent1_k, ld_ent1_d, ld_ent0, ld_ent1, lenV_ents, lenV_ints, lenV_bys, lss_int, leq_int, gtr_int, geq_int, eql_int, neq_int, add_int, sub_int, splitK_dec, condK_dec, splitK_t, splitK_f, condK_t, condK_f, not_bool, List.drop_succ_cons, List.drop_zero, loadA_ipc, loadA_ent, extA_0, extA_1, Bool.not_true, Bool.not_false, Bool.false_eq_true, if_false, if_true, and_self, and_true, and_false, false_and, ld_ent2_t, ld_ent2_k, ld_ent2_d, neq_nil1, neq_nil2, eql_nil2, nili_eq, ld_base0, ld_base1_i, ld_base1_t, ld_base1_m, new_zlog, extA_2, ld_lg1, ld_lg2]
      rw [callK_ok (by simp [askedA, hm.sound, hhk, hsoundg, hhg]) (Term_ok k _ hm.ok)]
      simp only [askedA, hm.sound, hhk, hsoundg, hhg, hterm, List.length_nil, new_lg, new_ent, List.nil_append, List.length_singleton, List.singleton_append, List.cons_append, List.length_cons, Nat.reduceAdd, offA_ptr, offA_ip, Option.bind_some, Nat.zero_add, Nat.add_zero, ld_lg0_i, ld_lg0_t, ld_lg0_m, ld_lg0_e, ld_lg0, ld_ent0_t, ld_ent0_k, ld_ent0_d, ld_ent1_t, ld_ent1_k, ld_ent1_d, ld_ent0, ld_ent1, lenV_ents, lenV_ints, lenV_bys, lss_int, leq_int, gtr_int, geq_int, eql_int, neq_int, add_int, sub_int, splitK_dec, condK_dec, splitK_t, splitK_f, condK_t, condK_f, not_bool, List.drop_succ_cons, List.drop_zero, loadA_ipc, loadA_ent, extA_0, extA_1, Bool.not_true, Bool.not_false, Bool.false_eq_true, if_false, if_true, and_self, and_true, and_false, false_and, ld_ent2_t, ld_ent2_k, ld_ent2_d, neq_nil1, neq_nil2, eql_nil2, nili_eq, ld_base0, ld_base1_i, ld_base1_t, ld_base1_m, new_zlog, extA_2, ld_lg1, ld_lg2, decide_true, w1]
      exact ih (n + 1) _ m2 (by omega)
    · exact endB_good rfl
theorem again_loop (g k : Lg) (prev : Int) (e : List Ent) (pos : Int) (hp : g.index ≤ prev) (hm : Merged g k (prev - g.index).toNat e pos) (hsg : Small g) (hgo : LgOk g) (hsoundg : soundL g = true) (he : e.length < 2^39) (m2 : AV) :
    ∀ (m i : Nat) (E : List Nat), i + m = e.length → law18_LogAgain_J13 0 (.int .i64 prev) (ents e) (.ptr 0 1 0 0) (.bool true) (.ptr 1 1 0 0) (.int .i64 pos) (.int .i64 (lastL k)) (.int .i64 i) [.row 4 [g.av], .row 4 [k.av], .row 4 [m2]] E = some (.bool true, [], []) := by
  have hsk := sound_small hm.sound
  have h0 := hsk.i0; have h1 := hsk.i1; have hmo : most = 1152921504606846976 := rfl
  have hidx := hm.idx
  have hpl := hm.pl
  have hml := (mch_le (k.es.drop (prev - g.index).toNat) e).1
  rw [hm.full, List.length_drop] at hml
  intro m
  induction m with
  | zero =>
    intro i E h
    refine law18_LogAgain_J13_of ?_
    have e1 : ¬ ((i : Int) < (e.length : Int)) := by omega
    simp only [List.length_nil, new_lg, new_ent, List.nil_append, List.length_singleton, List.singleton_append, List.cons_append, List.length_cons, Nat.reduceAdd, offA_ptr, offA_ip, Option.bind_some, Nat.zero_add, Nat.add_zero, ld_lg0_i, ld_lg0_t, ld_lg0_m, ld_lg0_e, ld_lg0, ld_ent0_t, ld_ent0_k, ld_ent0_d, ld_ent1_t, ld_ent1_k, ld_ent1_d, ld_ent0, ld_ent1, lenV_ents, lenV_ints, lenV_bys, lss_int, leq_int, gtr_int, geq_int, eql_int, neq_int, add_int, sub_int, splitK_dec, condK_dec, splitK_t, splitK_f, condK_t, condK_f, not_bool, List.drop_succ_cons, List.drop_zero, loadA_ipc, loadA_ent, extA_0, extA_1, Bool.not_true, Bool.not_false, Bool.false_eq_true, if_false, if_true, and_self, and_true, and_false, false_and, ld_ent2_t, ld_ent2_k, ld_ent2_d, neq_nil1, neq_nil2, eql_nil2, nili_eq, ld_base0, ld_base1_i, ld_base1_t, ld_base1_m, new_zlog, extA_2, ld_lg1, ld_lg2, e1]
    have := again_terms g k prev e pos hp hm hsg hgo hsoundg he m2 (k.es.length + 1) 0 E m2 (by omega)
    rw [show k.index + ((0 : Nat) : Int) = g.index by omega] at this
    exact this
  | succ m ih =>
    intro i E h
    refine law18_LogAgain_J13_of ?_
    have e1 : ((i : Int) < (e.length : Int)) := by omega
    have hi : i < e.length := by omega
    have w1 : IntKind.i64.wrap (prev + 1) = prev + 1 := by rw [wrap64] <;> omega
    have w2 : IntKind.i64.wrap (prev + 1 + (i : Int)) = prev + 1 + (i : Int) := by rw [wrap64] <;> omega
    have w3 : IntKind.i64.wrap ((i : Int) + 1) = ((i + 1 : Nat) : Int) := w64 (by omega) (by omega)
    have hhk : hasL k (prev + 1 + i) = true := hasL_iff.2 (by omega)
    obtain ⟨x, y, hx, hy, hxy⟩ := mch_get (k.es.drop (prev - g.index).toNat) e i (by rw [hm.full]; exact hi)
    have hterm : termL k (prev + 1 + i) = y.term := by
      obtain ⟨z, hz1, hz2⟩ := has_get hhk (by omega)
      rw [hz2, ← hxy]
      rw [List.getElem?_drop] at hx
      rw [show (prev + 1 + (i : Int) - k.index - 1).toNat = (prev - g.index).toNat + i by omega, hx] at hz1
      injection hz1 with hz1; rw [hz1]
    simp only [List.length_nil, new_lg, new_ent, List.nil_append, List.length_singleton, List.singleton_append, List.cons_append, List.length_cons, Nat.reduceAdd, offA_ptr, offA_ip, Option.bind_some, Nat.zero_add, Nat.add_zero, ld_lg0_i, ld_lg0_t, ld_lg0_m, ld_lg0_e, ld_lg0, ld_ent0_t, ld_ent0_k, ld_ent0_d, ld_ent1_t, ld_ent1_k, ld_ent1_d, ld_ent0, ld_ent1, lenV_ents, lenV_ints, lenV_bys, lss_int, leq_int, gtr_int, geq_int, eql_int, neq_int, add_int, sub_int, splitK_dec, condK_dec, splitK_t, splitK_f, condK_t, condK_f, not_bool, List.drop_succ_cons, List.drop_zero, loadA_ipc, loadA_ent, extA_0, extA_1, Bool.not_true, Bool.not_false, Bool.false_eq_true, if_false, if_true, and_self, and_true, and_false, false_and, ld_ent2_t, ld_ent2_k, ld_ent2_d, neq_nil1, neq_nil2, eql_nil2, nili_eq, ld_base0, ld_base1_i, ld_base1_t, ld_base1_m, new_zlog, extA_2, ld_lg1, ld_lg2, e1, decide_true, w1, w2]
    rw [callK_ok (by simp) (Term_ok k _ hm.ok)]
    simp only [askedA, hm.sound, hhk, hterm, List.length_nil, new_lg, new_ent, List.nil_append, List.length_singleton, List.singleton_append, List.cons_append, List.length_cons, Nat.reduceAdd, offA_ptr, offA_ip, Option.bind_some, Nat.zero_add, Nat.add_zero, ld_lg0_i, ld_lg0_t, ld_lg0_m, ld_lg0_e, ld_lg0, ld_ent0_t, ld_ent0_k, ld_ent0_d, ld_ent1_t, ld_ent1_k, ld_ent1_d, ld_ent0, ld_ent1, lenV_ents, lenV_ints, lenV_bys, lss_int, leq_int, gtr_int, geq_int, eql_int, neq_int, add_int, sub_int, splitK_dec, condK_dec, splitK_t, splitK_f, condK_t, condK_f, not_bool, List.drop_succ_cons, List.drop_zero, loadA_ipc, loadA_ent, extA_0, extA_1, Bool.not_true, Bool.not_false, Bool.false_eq_true, if_false, if_true, and_self, and_true, and_false, false_and, ld_ent2_t, ld_ent2_k, ld_ent2_d, neq_nil1, neq_nil2, eql_nil2, nili_eq, ld_base0, ld_base1_i, ld_base1_t, ld_base1_m, new_zlog, extA_2, ld_lg1, ld_lg2, ixA_ents hy, decide_true, w3]
    exact ih (i + 1) _ (by omega)
theorem logAgain_ok (g : Lg) (prev : Int) (e : List Ent) : EV C n_law18_LogAgain [g.av, .int .i64 prev, ents e] [] = some (.bool true, [], []) := by
  refine law18_LogAgain_of ?_
  simp only [List.length_nil, new_lg, new_ent, List.nil_append, List.length_singleton, List.singleton_append, List.cons_append, List.length_cons, Nat.reduceAdd, offA_ptr, offA_ip, Option.bind_some, Nat.zero_add, Nat.add_zero, ld_lg0_i, ld_lg0_t, ld_lg0_m, ld_lg0_e, ld_lg0, ld_ent0_t, ld_ent0_k, ld_ent0_d, ld_ent1_t, ld_ent1_k, ld_ent1_d, ld_ent0, ld_ent1, lenV_ents, lenV_ints, lenV_bys, lss_int, leq_int, gtr_int, geq_int, eql_int, neq_int, add_int, sub_int, splitK_dec, condK_dec, splitK_t, splitK_f, condK_t, condK_f, not_bool, List.drop_succ_cons, List.drop_zero, loadA_ipc, loadA_ent, extA_0, extA_1, Bool.not_true, Bool.not_false, Bool.false_eq_true, if_false, if_true, and_self, and_true, and_false, false_and, ld_ent2_t, ld_ent2_k, ld_ent2_d, neq_nil1, neq_nil2, eql_nil2, nili_eq, ld_base0, ld_base1_i, ld_base1_t, ld_base1_m, new_zlog, extA_2, ld_lg1, ld_lg2]
  rw [callK_ok rfl up_ok]
  simp only [List.length_nil, new_lg, new_ent, List.nil_append, List.length_singleton, List.singleton_append, List.cons_append, List.length_cons, Nat.reduceAdd, offA_ptr, offA_ip, Option.bind_some, Nat.zero_add, Nat.add_zero, ld_lg0_i, ld_lg0_t, ld_lg0_m, ld_lg0_e, ld_lg0, ld_ent0_t, ld_ent0_k, ld_ent0_d, ld_ent1_t, ld_ent1_k, ld_ent1_d, ld_ent0, ld_ent1, lenV_ents, lenV_ints, lenV_bys, lss_int, leq_int, gtr_int, geq_int, eql_int, neq_int, add_int, sub_int, splitK_dec, condK_dec, splitK_t, splitK_f, condK_t, condK_f, not_bool, List.drop_succ_cons, List.drop_zero, loadA_ipc, loadA_ent, extA_0, extA_1, Bool.not_true, Bool.not_false, Bool.false_eq_true, if_false, if_true, and_self, and_true, and_false, false_and, ld_ent2_t, ld_ent2_k, ld_ent2_d, neq_nil1, neq_nil2, eql_nil2, nili_eq, ld_base0, ld_base1_i, ld_base1_t, ld_base1_m, new_zlog, extA_2, ld_lg1, ld_lg2]
  rw [callK_ok (by simp) (Light_ok g)]
  simp only [List.length_nil, new_lg, new_ent, List.nil_append, List.length_singleton, List.singleton_append, List.cons_append, List.length_cons, Nat.reduceAdd, offA_ptr, offA_ip, Option.bind_some, Nat.zero_add, Nat.add_zero, ld_lg0_i, ld_lg0_t, ld_lg0_m, ld_lg0_e, ld_lg0, ld_ent0_t, ld_ent0_k, ld_ent0_d, ld_ent1_t, ld_ent1_k, ld_ent1_d, ld_ent0, ld_ent1, lenV_ents, lenV_ints, lenV_bys, lss_int, leq_int, gtr_int, geq_int, eql_int, neq_int, add_int, sub_int, splitK_dec, condK_dec, splitK_t, splitK_f, condK_t, condK_f, not_bool, List.drop_succ_cons, List.drop_zero, loadA_ipc, loadA_ent, extA_0, extA_1, Bool.not_true, Bool.not_false, Bool.false_eq_true, if_false, if_true, and_self, and_true, and_false, false_and, ld_ent2_t, ld_ent2_k, ld_ent2_d, neq_nil1, neq_nil2, eql_nil2, nili_eq, ld_base0, ld_base1_i, ld_base1_t, ld_base1_m, new_zlog, extA_2, ld_lg1, ld_lg2]
  by_cases hl : lightL g = true
  case neg =>
    simp only [Bool.not_eq_true] at hl
    simp only [hl, List.length_nil, new_lg, new_ent, List.nil_append, List.length_singleton, List.singleton_append, List.cons_append, List.length_cons, Nat.reduceAdd, offA_ptr, offA_ip, Option.bind_some, Nat.zero_add, Nat.add_zero, ld_lg0_i, ld_lg0_t, ld_lg0_m, ld_lg0_e, ld_lg0, ld_ent0_t, ld_ent0_k, ld_ent0_d, ld_ent1_t, ld_ent1_k, ld_ent1_d, ld_ent0, ld_ent1, lenV_ents, lenV_ints, lenV_bys, lss_int, leq_int, gtr_int, geq_int, eql_int, neq_int, add_int, sub_int, splitK_dec, condK_dec, splitK_t, splitK_f, condK_t, condK_f, not_bool, List.drop_succ_cons, List.drop_zero, loadA_ipc, loadA_ent, extA_0, extA_1, Bool.not_true, Bool.not_false, Bool.false_eq_true, if_false, if_true, and_self, and_true, and_false, false_and, ld_ent2_t, ld_ent2_k, ld_ent2_d, neq_nil1, neq_nil2, eql_nil2, nili_eq, ld_base0, ld_base1_i, ld_base1_t, ld_base1_m, new_zlog, extA_2, ld_lg1, ld_lg2]
    exact endB_good rfl
  case pos =>
  obtain ⟨hg, hge⟩ := light_ok hl
  simp only [hl, List.length_nil, new_lg, new_ent, List.nil_append, List.length_singleton, List.singleton_append, List.cons_append, List.length_cons, Nat.reduceAdd, offA_ptr, offA_ip, Option.bind_some, Nat.zero_add, Nat.add_zero, ld_lg0_i, ld_lg0_t, ld_lg0_m, ld_lg0_e, ld_lg0, ld_ent0_t, ld_ent0_k, ld_ent0_d, ld_ent1_t, ld_ent1_k, ld_ent1_d, ld_ent0, ld_ent1, lenV_ents, lenV_ints, lenV_bys, lss_int, leq_int, gtr_int, geq_int, eql_int, neq_int, add_int, sub_int, splitK_dec, condK_dec, splitK_t, splitK_f, condK_t, condK_f, not_bool, List.drop_succ_cons, List.drop_zero, loadA_ipc, loadA_ent, extA_0, extA_1, Bool.not_true, Bool.not_false, Bool.false_eq_true, if_false, if_true, and_self, and_true, and_false, false_and, ld_ent2_t, ld_ent2_k, ld_ent2_d, neq_nil1, neq_nil2, eql_nil2, nili_eq, ld_base0, ld_base1_i, ld_base1_t, ld_base1_m, new_zlog, extA_2, ld_lg1, ld_lg2, fill7]
  rw [callK_nil (entLg_kills e) (entLg_frz e _) (by simp) (Light_ok (entLg e))]
  simp only [List.length_nil, new_lg, new_ent, List.nil_append, List.length_singleton, List.singleton_append, List.cons_append, List.length_cons, Nat.reduceAdd, offA_ptr, offA_ip, Option.bind_some, Nat.zero_add, Nat.add_zero, ld_lg0_i, ld_lg0_t, ld_lg0_m, ld_lg0_e, ld_lg0, ld_ent0_t, ld_ent0_k, ld_ent0_d, ld_ent1_t, ld_ent1_k, ld_ent1_d, ld_ent0, ld_ent1, lenV_ents, lenV_ints, lenV_bys, lss_int, leq_int, gtr_int, geq_int, eql_int, neq_int, add_int, sub_int, splitK_dec, condK_dec, splitK_t, splitK_f, condK_t, condK_f, not_bool, List.drop_succ_cons, List.drop_zero, loadA_ipc, loadA_ent, extA_0, extA_1, Bool.not_true, Bool.not_false, Bool.false_eq_true, if_false, if_true, and_self, and_true, and_false, false_and, ld_ent2_t, ld_ent2_k, ld_ent2_d, neq_nil1, neq_nil2, eql_nil2, nili_eq, ld_base0, ld_base1_i, ld_base1_t, ld_base1_m, new_zlog, extA_2, ld_lg1, ld_lg2]
  by_cases hl2 : lightL (entLg e) = true
  case neg =>
    simp only [Bool.not_eq_true] at hl2
    simp only [hl2, List.length_nil, new_lg, new_ent, List.nil_append, List.length_singleton, List.singleton_append, List.cons_append, List.length_cons, Nat.reduceAdd, offA_ptr, offA_ip, Option.bind_some, Nat.zero_add, Nat.add_zero, ld_lg0_i, ld_lg0_t, ld_lg0_m, ld_lg0_e, ld_lg0, ld_ent0_t, ld_ent0_k, ld_ent0_d, ld_ent1_t, ld_ent1_k, ld_ent1_d, ld_ent0, ld_ent1, lenV_ents, lenV_ints, lenV_bys, lss_int, leq_int, gtr_int, geq_int, eql_int, neq_int, add_int, sub_int, splitK_dec, condK_dec, splitK_t, splitK_f, condK_t, condK_f, not_bool, List.drop_succ_cons, List.drop_zero, loadA_ipc, loadA_ent, extA_0, extA_1, Bool.not_true, Bool.not_false, Bool.false_eq_true, if_false, if_true, and_self, and_true, and_false, false_and, ld_ent2_t, ld_ent2_k, ld_ent2_d, neq_nil1, neq_nil2, eql_nil2, nili_eq, ld_base0, ld_base1_i, ld_base1_t, ld_base1_m, new_zlog, extA_2, ld_lg1, ld_lg2]
    exact endB_good rfl
  case pos =>
  obtain ⟨hg2, he⟩ := light_ok hl2
  have hd : lightP e := hg2.d
  have he : e.length < 2^39 := he
  have hle : g.es.length ≤ 200 ∧ e.length ≤ 200 := by
    simp only [lightL, Bool.and_eq_true, decide_eq_true_eq] at hl hl2
    exact ⟨hl.1, hl2.1⟩
  simp only [hl2, List.length_nil, new_lg, new_ent, List.nil_append, List.length_singleton, List.singleton_append, List.cons_append, List.length_cons, Nat.reduceAdd, offA_ptr, offA_ip, Option.bind_some, Nat.zero_add, Nat.add_zero, ld_lg0_i, ld_lg0_t, ld_lg0_m, ld_lg0_e, ld_lg0, ld_ent0_t, ld_ent0_k, ld_ent0_d, ld_ent1_t, ld_ent1_k, ld_ent1_d, ld_ent0, ld_ent1, lenV_ents, lenV_ints, lenV_bys, lss_int, leq_int, gtr_int, geq_int, eql_int, neq_int, add_int, sub_int, splitK_dec, condK_dec, splitK_t, splitK_f, condK_t, condK_f, not_bool, List.drop_succ_cons, List.drop_zero, loadA_ipc, loadA_ent, extA_0, extA_1, Bool.not_true, Bool.not_false, Bool.false_eq_true, if_false, if_true, and_self, and_true, and_false, false_and, ld_ent2_t, ld_ent2_k, ld_ent2_d, neq_nil1, neq_nil2, eql_nil2, nili_eq, ld_base0, ld_base1_i, ld_base1_t, ld_base1_m, new_zlog, extA_2, ld_lg1, ld_lg2]
  rw [callK_ok (by simp) (Merge_ok g hg hge prev e he hd)]
  have hst : ∀ (k : Lg) (o : AObj) (K : List AObj → List Nat → Option R3), stoK 4 (.ptr 1 1 0 0) k.av [o, .row 4 [zlog]] K = K [o, .row 4 [k.av]] [] := fun k o K => sto_lg k rfl
  have hst2 : ∀ (k : Lg) (o o2 : AObj) (K : List AObj → List Nat → Option R3), stoK 4 (.ptr 2 1 0 0) k.av [o, o2, .row 4 [zlog]] K = K [o, o2, .row 4 [k.av]] [] := fun k o o2 K => sto_lg k rfl
  unfold mergeA
  by_cases hs : soundL g = true
  case neg =>
    have he3 : errA 3 = codeA 3 := rfl
    simp only [Bool.not_eq_true] at hs
    simp only [hs, mAV, he3, neq_code, List.length_nil, new_lg, new_ent, List.nil_append, List.length_singleton, List.singleton_append, List.cons_append, List.length_cons, Nat.reduceAdd, offA_ptr, offA_ip, Option.bind_some, Nat.zero_add, Nat.add_zero, ld_lg0_i, ld_lg0_t, ld_lg0_m, ld_lg0_e, ld_lg0, ld_ent0_t, ld_ent0_k, ld_ent0_d, ld_ent1_t, ld_ent1_k, ld_ent1_d, ld_ent0, ld_ent1, lenV_ents, lenV_ints, lenV_bys, lss_int, leq_int, gtr_int, geq_int, eql_int, neq_int, add_int, sub_int, splitK_dec, condK_dec, splitK_t, splitK_f, condK_t, condK_f, not_bool, List.drop_succ_cons, List.drop_zero, loadA_ipc, loadA_ent, extA_0, extA_1, Bool.not_true, Bool.not_false, Bool.false_eq_true, if_false, if_true, and_self, and_true, and_false, false_and, ld_ent2_t, ld_ent2_k, ld_ent2_d, neq_nil1, neq_nil2, eql_nil2, nili_eq, ld_base0, ld_base1_i, ld_base1_t, ld_base1_m, new_zlog, extA_2, ld_lg1, ld_lg2, hst]
    exact endB_good rfl
  case pos =>
  have hsm := sound_small hs
  by_cases hh : hasL g prev = true
  case neg =>
    have he3 : errA 9 = codeA 9 := rfl
    simp only [Bool.not_eq_true] at hh
    simp only [hs, hh, mAV, he3, neq_code, List.length_nil, new_lg, new_ent, List.nil_append, List.length_singleton, List.singleton_append, List.cons_append, List.length_cons, Nat.reduceAdd, offA_ptr, offA_ip, Option.bind_some, Nat.zero_add, Nat.add_zero, ld_lg0_i, ld_lg0_t, ld_lg0_m, ld_lg0_e, ld_lg0, ld_ent0_t, ld_ent0_k, ld_ent0_d, ld_ent1_t, ld_ent1_k, ld_ent1_d, ld_ent0, ld_ent1, lenV_ents, lenV_ints, lenV_bys, lss_int, leq_int, gtr_int, geq_int, eql_int, neq_int, add_int, sub_int, splitK_dec, condK_dec, splitK_t, splitK_f, condK_t, condK_f, not_bool, List.drop_succ_cons, List.drop_zero, loadA_ipc, loadA_ent, extA_0, extA_1, Bool.not_true, Bool.not_false, Bool.false_eq_true, if_false, if_true, and_self, and_true, and_false, false_and, ld_ent2_t, ld_ent2_k, ld_ent2_d, neq_nil1, neq_nil2, eql_nil2, nili_eq, ld_base0, ld_base1_i, ld_base1_t, ld_base1_m, new_zlog, extA_2, ld_lg1, ld_lg2, hst]
    exact endB_good rfl
  case pos =>
  have hb := hasL_iff.1 hh
  have hp : (prev - g.index).toNat ≤ g.es.length := by omega
  simp only [hs, hh, mAV, List.length_nil, new_lg, new_ent, List.nil_append, List.length_singleton, List.singleton_append, List.cons_append, List.length_cons, Nat.reduceAdd, offA_ptr, offA_ip, Option.bind_some, Nat.zero_add, Nat.add_zero, ld_lg0_i, ld_lg0_t, ld_lg0_m, ld_lg0_e, ld_lg0, ld_ent0_t, ld_ent0_k, ld_ent0_d, ld_ent1_t, ld_ent1_k, ld_ent1_d, ld_ent0, ld_ent1, lenV_ents, lenV_ints, lenV_bys, lss_int, leq_int, gtr_int, geq_int, eql_int, neq_int, add_int, sub_int, splitK_dec, condK_dec, splitK_t, splitK_f, condK_t, condK_f, not_bool, List.drop_succ_cons, List.drop_zero, loadA_ipc, loadA_ent, extA_0, extA_1, Bool.not_true, Bool.not_false, Bool.false_eq_true, if_false, if_true, and_self, and_true, and_false, false_and, ld_ent2_t, ld_ent2_k, ld_ent2_d, neq_nil1, neq_nil2, eql_nil2, nili_eq, ld_base0, ld_base1_i, ld_base1_t, ld_base1_m, new_zlog, extA_2, ld_lg1, ld_lg2, hst]
  rcases mergeK_code g (prev - g.index).toNat e (mch (g.es.drop (prev - g.index).toNat) e) with hc | hc
  · have hm := merged hg hge hs he hd hp hc
    have hcode : errA (mergeL g prev e).2.2 = .nili := by unfold mergeL; rw [hc]; rfl
    have hmerge : mergeL g prev e = mergeK g (prev - g.index).toNat e (mch (g.es.drop (prev - g.index).toNat) e) := rfl
    rw [← hmerge] at hm hc
    simp only [hcode, List.length_nil, new_lg, new_ent, List.nil_append, List.length_singleton, List.singleton_append, List.cons_append, List.length_cons, Nat.reduceAdd, offA_ptr, offA_ip, Option.bind_some, Nat.zero_add, Nat.add_zero, ld_lg0_i, ld_lg0_t, ld_lg0_m, ld_lg0_e, ld_lg0, ld_ent0_t, ld_ent0_k, ld_ent0_d, ld_ent1_t, ld_ent1_k, ld_ent1_d, ld_ent0, ld_ent1, lenV_ents, lenV_ints, lenV_bys, lss_int, leq_int, gtr_int, geq_int, eql_int, neq_int, add_int, sub_int, splitK_dec, condK_dec, splitK_t, splitK_f, condK_t, condK_f, not_bool, List.drop_succ_cons, List.drop_zero, loadA_ipc, loadA_ent, extA_0, extA_1, Bool.not_true, Bool.not_false, Bool.false_eq_true, if_false, if_true, and_self, and_true, and_false, false_and, ld_ent2_t, ld_ent2_k, ld_ent2_d, neq_nil1, neq_nil2, eql_nil2, nili_eq, ld_base0, ld_base1_i, ld_base1_t, ld_base1_m, new_zlog, extA_2, ld_lg1, ld_lg2]
    generalize (mergeL g prev e).2.1 = pos at hm
    have hkl : (mergeL g prev e).1.es.length < 2^39 := by
      have : (mergeL g prev e).1.es.length ≤ 400 := by
        rw [hmerge]; unfold mergeK
        split
        · simp only; omega
        · split
          · simp only [joinL, List.length_append, List.length_take, List.length_drop]; omega
          · simp [noLog]
      omega
    generalize (mergeL g prev e).1 = k at hm hkl
    have hsk := sound_small hm.sound
    have h0 := hsk.i0; have h1 := hsk.i1; have hmo : most = 1152921504606846976 := rfl
    have hidx := hm.idx
    have hpl := hm.pl
    rw [callK_ok (by simp) (Check_ok' k hm.ok)]
    simp only [checkA, hm.sound, List.length_nil, new_lg, new_ent, List.nil_append, List.length_singleton, List.singleton_append, List.cons_append, List.length_cons, Nat.reduceAdd, offA_ptr, offA_ip, Option.bind_some, Nat.zero_add, Nat.add_zero, ld_lg0_i, ld_lg0_t, ld_lg0_m, ld_lg0_e, ld_lg0, ld_ent0_t, ld_ent0_k, ld_ent0_d, ld_ent1_t, ld_ent1_k, ld_ent1_d, ld_ent0, ld_ent1, lenV_ents, lenV_ints, lenV_bys, lss_int, leq_int, gtr_int, geq_int, eql_int, neq_int, add_int, sub_int, splitK_dec, condK_dec, splitK_t, splitK_f, condK_t, condK_f, not_bool, List.drop_succ_cons, List.drop_zero, loadA_ipc, loadA_ent, extA_0, extA_1, Bool.not_true, Bool.not_false, Bool.false_eq_true, if_false, if_true, and_self, and_true, and_false, false_and, ld_ent2_t, ld_ent2_k, ld_ent2_d, neq_nil1, neq_nil2, eql_nil2, nili_eq, ld_base0, ld_base1_i, ld_base1_t, ld_base1_m, new_zlog, extA_2, ld_lg1, ld_lg2]
    rw [callK_ok (by simp) (Merge_ok k hm.ok hkl prev e he hd)]
    have hhk : hasL k prev = true := hasL_iff.2 (by omega)
    have hm2 : mergeA k prev e = mAV (k, lastL k + 1, 0) := by
      unfold mergeA
      rw [if_pos hm.sound, if_pos hhk]
      unfold mergeL
      rw [hidx, hm.full]
      unfold mergeK
      rw [if_pos rfl]
    rw [hm2]
    have he0 : errA 0 = .nili := rfl
    simp only [mAV, he0, List.length_nil, new_lg, new_ent, List.nil_append, List.length_singleton, List.singleton_append, List.cons_append, List.length_cons, Nat.reduceAdd, offA_ptr, offA_ip, Option.bind_some, Nat.zero_add, Nat.add_zero, ld_lg0_i, ld_lg0_t, ld_lg0_m, ld_lg0_e, ld_lg0, ld_ent0_t, ld_ent0_k, ld_ent0_d, ld_ent1_t, ld_ent1_k, ld_ent1_d, ld_ent0, ld_ent1, lenV_ents, lenV_ints, lenV_bys, lss_int, leq_int, gtr_int, geq_int, eql_int, neq_int, add_int, sub_int, splitK_dec, condK_dec, splitK_t, splitK_f, condK_t, condK_f, not_bool, List.drop_succ_cons, List.drop_zero, loadA_ipc, loadA_ent, extA_0, extA_1, Bool.not_true, Bool.not_false, Bool.false_eq_true, if_false, if_true, and_self, and_true, and_false, false_and, ld_ent2_t, ld_ent2_k, ld_ent2_d, neq_nil1, neq_nil2, eql_nil2, nili_eq, ld_base0, ld_base1_i, ld_base1_t, ld_base1_m, new_zlog, extA_2, ld_lg1, ld_lg2, hst2]
    rw [callK_ok (by simp) (Last_ok k hm.ok)]
    have w1 : IntKind.i64.wrap (lastL k + 1) = lastL k + 1 := by unfold lastL; rw [wrap64] <;> omega
    simp only [hm.sound, List.length_nil, new_lg, new_ent, List.nil_append, List.length_singleton, List.singleton_append, List.cons_append, List.length_cons, Nat.reduceAdd, offA_ptr, offA_ip, Option.bind_some, Nat.zero_add, Nat.add_zero, ld_lg0_i, ld_lg0_t, ld_lg0_m, ld_lg0_e, ld_lg0, ld_ent0_t, ld_ent0_k, ld_ent0_d, ld_ent1_t, ld_ent1_k, ld_ent1_d, ld_ent0, ld_ent1, lenV_ents, lenV_ints, lenV_bys, lss_int, leq_int, gtr_int, geq_int, eql_int, neq_int, add_int, sub_int, splitK_dec, condK_dec, splitK_t, splitK_f, condK_t, condK_f, not_bool, List.drop_succ_cons, List.drop_zero, loadA_ipc, loadA_ent, extA_0, extA_1, Bool.not_true, Bool.not_false, Bool.false_eq_true, if_false, if_true, and_self, and_true, and_false, false_and, ld_ent2_t, ld_ent2_k, ld_ent2_d, neq_nil1, neq_nil2, eql_nil2, nili_eq, ld_base0, ld_base1_i, ld_base1_t, ld_base1_m, new_zlog, extA_2, ld_lg1, ld_lg2, w1, decide_true]
    rw [callK_ok (by simp) (Same_ok k hm.ok.m (by omega))]
    simp only [List.length_nil, new_lg, new_ent, List.nil_append, List.length_singleton, List.singleton_append, List.cons_append, List.length_cons, Nat.reduceAdd, offA_ptr, offA_ip, Option.bind_some, Nat.zero_add, Nat.add_zero, ld_lg0_i, ld_lg0_t, ld_lg0_m, ld_lg0_e, ld_lg0, ld_ent0_t, ld_ent0_k, ld_ent0_d, ld_ent1_t, ld_ent1_k, ld_ent1_d, ld_ent0, ld_ent1, lenV_ents, lenV_ints, lenV_bys, lss_int, leq_int, gtr_int, geq_int, eql_int, neq_int, add_int, sub_int, splitK_dec, condK_dec, splitK_t, splitK_f, condK_t, condK_f, not_bool, List.drop_succ_cons, List.drop_zero, loadA_ipc, loadA_ent, extA_0, extA_1, Bool.not_true, Bool.not_false, Bool.false_eq_true, if_false, if_true, and_self, and_true, and_false, false_and, ld_ent2_t, ld_ent2_k, ld_ent2_d, neq_nil1, neq_nil2, eql_nil2, nili_eq, ld_base0, ld_base1_i, ld_base1_t, ld_base1_m, new_zlog, extA_2, ld_lg1, ld_lg2]
    exact again_loop g k prev e pos (by omega) hm hsm hg hs he _ e.length 0 _ (by omega)
  · have hcode : errA (mergeL g prev e).2.2 = codeA 3 := by unfold mergeL; rw [hc]; rfl
    simp only [hcode, neq_code, List.length_nil, new_lg, new_ent, List.nil_append, List.length_singleton, List.singleton_append, List.cons_append, List.length_cons, Nat.reduceAdd, offA_ptr, offA_ip, Option.bind_some, Nat.zero_add, Nat.add_zero, ld_lg0_i, ld_lg0_t, ld_lg0_m, ld_lg0_e, ld_lg0, ld_ent0_t, ld_ent0_k, ld_ent0_d, ld_ent1_t, ld_ent1_k, ld_ent1_d, ld_ent0, ld_ent1, lenV_ents, lenV_ints, lenV_bys, lss_int, leq_int, gtr_int, geq_int, eql_int, neq_int, add_int, sub_int, splitK_dec, condK_dec, splitK_t, splitK_f, condK_t, condK_f, not_bool, List.drop_succ_cons, List.drop_zero, loadA_ipc, loadA_ent, extA_0, extA_1, Bool.not_true, Bool.not_false, Bool.false_eq_true, if_false, if_true, and_self, and_true, and_false, false_and, ld_ent2_t, ld_ent2_k, ld_ent2_d, neq_nil1, neq_nil2, eql_nil2, nili_eq, ld_base0, ld_base1_i, ld_base1_t, ld_base1_m, new_zlog, extA_2, ld_lg1, ld_lg2]
    exact endB_good rfl
theorem logAgain_law {B : Nat} {a b c : AV} {f f1 f2 : Nat} {l l1 l2 : List AV} (e : a = mkE (agT Try.prog 41) l) (h : tyC Try.prog B f 41 l) (e1 : b = mkE (agT Try.prog 3) l1) (h1 : tyC Try.prog B f1 3 l1) (e2 : c = mkE (agT Try.prog 39) l2) (h2 : tyC Try.prog B f2 39 l2) :
    EV C n_law18_LogAgain [a, b, c] [] = some (.bool true, [], []) := by
  obtain ⟨g, rfl⟩ := ty_lg e h
  obtain ⟨i, rfl⟩ := ty_i64' e1 h1
  obtain ⟨n, rfl⟩ := ty_ents' e2 h2
  exact logAgain_ok g i n
end Go.Pm

