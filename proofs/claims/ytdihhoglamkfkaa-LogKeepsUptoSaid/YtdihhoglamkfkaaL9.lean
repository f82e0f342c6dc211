/- A part of the proof: what the functions of the program answer, as plain lists and numbers. -/
import Derived.Test.YtdihhoglamkfkaaL8
namespace Go.Pm
open Go.Proofs
set_option linter.unusedVariables false
set_option linter.unusedSimpArgs false
/-! ### Compact -/
def compactL (g : Lg) (i : Int) : Lg := ⟨i, termL g i, membersL g i, g.es.drop (i - g.index).toNat⟩
theorem fill3 (i t : Int) (m : List Int) : fillB (AV.cells (.agg [(.int .i64 0), (.int .i64 0), .nils])) [(0, 1, .int .i64 i), (1, 1, .int .i64 t), (2, 1, ints m)] = some [.int .i64 i, .int .i64 t, ints m] := rfl
theorem fill4 (i t : Int) (m : List Int) (e : List Ent) : fillB (AV.cells (.agg [(.int .i64 0), (.int .i64 0), .nils, .nils])) [(0, 3, .agg [.int .i64 i, .int .i64 t, ints m]), (3, 1, ents e)] = some [.int .i64 i, .int .i64 t, ints m, ents e] := rfl
theorem fill5 (i t : Int) (m : List Int) : fillB (AV.cells (.agg [(.int .i64 0), (.int .i64 0), .nils, .nils])) [(0, 3, .agg [.int .i64 i, .int .i64 t, ints m])] = some [.int .i64 i, .int .i64 t, ints m, .nils] := rfl
def compactA (g : Lg) (i : Int) : AV := if soundL g = true then (if hasL g i = true then .tup [(compactL g i).av, .nili] else .tup [noLog.av, codeA 9]) else .tup [noLog.av, codeA 3]
theorem cut_tail {l : List Ent} {i : Nat} (h : i ≤ l.length) (H : List AObj) : cutA 3 (ents l) (some (.int .i64 (i : Int))) none none H = some (ents (l.drop i)) := by
  rw [cutA_ents (i := i) (j := l.length) rfl rfl h (Nat.le_refl _), List.take_length]
theorem Compact_ok (g : Lg) (i : Int) (hg : LgOk g) : EV C n_log_Compact [g.av, .int .i64 i] [] = some (compactA g i, [], []) := by
  refine log_Compact_of ?_
  simp only [List.length_nil, new_lg, new_ent, List.nil_append, List.length_singleton, List.singleton_append, List.cons_append, List.length_cons, Nat.reduceAdd, offA_ptr, offA_ip, Option.bind_some, Nat.zero_add, Nat.add_zero, ld_lg0_i, ld_lg0_t, ld_lg0_m, ld_lg0_e, ld_lg0, ld_ent0_t, ld_ent0_k, ld_ent0_d, ld_ent1_t, ld_ent1_k, ld_ent1_d, ld_ent0, ld_ent1, lenV_ents, lenV_ints, lenV_bys, lss_int, leq_int, gtr_int, geq_int, eql_int, neq_int, add_int, sub_int, splitK_dec, condK_dec, splitK_t, splitK_f, condK_t, condK_f, not_bool, List.drop_succ_cons, List.drop_zero, loadA_ipc, loadA_ent, extA_0, extA_1, Bool.not_true, Bool.not_false, Bool.false_eq_true, if_false, if_true, and_self, and_true, and_false, false_and, ld_ent2_t, ld_ent2_k, ld_ent2_d, neq_nil1, neq_nil2, eql_nil2, nili_eq, ld_base0, ld_base1_i, ld_base1_t, ld_base1_m, new_zlog, extA_2, ld_lg1, ld_lg2]
  rw [callK_ok (by simp) (asked_ok g i hg)]
  unfold askedA compactA codeA
  have hst1 : ∀ (o1 : AObj) (K : List AObj → List Nat → Option R3), stoK 4 (.ptr 1 1 0 0) (.agg [(.int .i64 0), (.int .i64 0), .nils, .nils]) [o1, .row 4 [zlog]] K = K [o1, .row 4 [zlog]] [] := fun o1 K => sto_zlog rfl
  by_cases hs : soundL g = true
  · have hsm := sound_small hs
    have h0 := hsm.i0; have h1 := hsm.i1; have hmo : most = 1152921504606846976 := rfl
    by_cases hh : hasL g i = true
    · have hb := hasL_iff.1 hh
      have w1 : IntKind.i64.wrap (i - g.index) = (((i - g.index).toNat : Nat) : Int) := w64 (by omega) (by omega)
      have hle := hg.e
      simp only [hs, hh, List.length_nil, new_lg, new_ent, List.nil_append, List.length_singleton, List.singleton_append, List.cons_append, List.length_cons, Nat.reduceAdd, offA_ptr, offA_ip, Option.bind_some, Nat.zero_add, Nat.add_zero, ld_lg0_i, ld_lg0_t, ld_lg0_m, ld_lg0_e, ld_lg0, ld_ent0_t, ld_ent0_k, ld_ent0_d, ld_ent1_t, ld_ent1_k, ld_ent1_d, ld_ent0, ld_ent1, lenV_ents, lenV_ints, lenV_bys, lss_int, leq_int, gtr_int, geq_int, eql_int, neq_int, add_int, sub_int, splitK_dec, condK_dec, splitK_t, splitK_f, condK_t, condK_f, not_bool, List.drop_succ_cons, List.drop_zero, loadA_ipc, loadA_ent, extA_0, extA_1, Bool.not_true, Bool.not_false, Bool.false_eq_true, if_false, if_true, and_self, and_true, and_false, false_and, ld_ent2_t, ld_ent2_k, ld_ent2_d, neq_nil1, neq_nil2, eql_nil2, nili_eq, ld_base0, ld_base1_i, ld_base1_t, ld_base1_m, new_zlog, extA_2, ld_lg1, ld_lg2]
      rw [callD_ok (by simp) (term_ok g i hsm hh), callD_ok (by simp) (Members_ok g i hg)]
      simp only [hs, List.length_nil, new_lg, new_ent, List.nil_append, List.length_singleton, List.singleton_append, List.cons_append, List.length_cons, Nat.reduceAdd, offA_ptr, offA_ip, Option.bind_some, Nat.zero_add, Nat.add_zero, ld_lg0_i, ld_lg0_t, ld_lg0_m, ld_lg0_e, ld_lg0, ld_ent0_t, ld_ent0_k, ld_ent0_d, ld_ent1_t, ld_ent1_k, ld_ent1_d, ld_ent0, ld_ent1, lenV_ents, lenV_ints, lenV_bys, lss_int, leq_int, gtr_int, geq_int, eql_int, neq_int, add_int, sub_int, splitK_dec, condK_dec, splitK_t, splitK_f, condK_t, condK_f, not_bool, List.drop_succ_cons, List.drop_zero, loadA_ipc, loadA_ent, extA_0, extA_1, Bool.not_true, Bool.not_false, Bool.false_eq_true, if_false, if_true, and_self, and_true, and_false, false_and, ld_ent2_t, ld_ent2_k, ld_ent2_d, neq_nil1, neq_nil2, eql_nil2, nili_eq, ld_base0, ld_base1_i, ld_base1_t, ld_base1_m, new_zlog, extA_2, ld_lg1, ld_lg2, fill3, w1, cut_tail (show (i - g.index).toNat ≤ g.es.length by omega)]
      rw [callD_ok (by simp) (Clone_api_Entry_ok _ (by rw [List.length_drop]; omega))]
      have hst : ∀ (o1 : AObj) (K : List AObj → List Nat → Option R3), stoK 4 (.ptr 1 1 0 0) (.agg [.int .i64 i, .int .i64 (termL g i), ints (membersL g i), ents (g.es.drop (i - g.index).toNat)]) [o1, .row 4 [zlog]] K = K [o1, .row 4 [(compactL g i).av]] [] := fun o1 K => sto_lg (compactL g i) rfl
      simp only [List.length_nil, new_lg, new_ent, List.nil_append, List.length_singleton, List.singleton_append, List.cons_append, List.length_cons, Nat.reduceAdd, offA_ptr, offA_ip, Option.bind_some, Nat.zero_add, Nat.add_zero, ld_lg0_i, ld_lg0_t, ld_lg0_m, ld_lg0_e, ld_lg0, ld_ent0_t, ld_ent0_k, ld_ent0_d, ld_ent1_t, ld_ent1_k, ld_ent1_d, ld_ent0, ld_ent1, lenV_ents, lenV_ints, lenV_bys, lss_int, leq_int, gtr_int, geq_int, eql_int, neq_int, add_int, sub_int, splitK_dec, condK_dec, splitK_t, splitK_f, condK_t, condK_f, not_bool, List.drop_succ_cons, List.drop_zero, loadA_ipc, loadA_ent, extA_0, extA_1, Bool.not_true, Bool.not_false, Bool.false_eq_true, if_false, if_true, and_self, and_true, and_false, false_and, ld_ent2_t, ld_ent2_k, ld_ent2_d, neq_nil1, neq_nil2, eql_nil2, nili_eq, ld_base0, ld_base1_i, ld_base1_t, ld_base1_m, new_zlog, extA_2, ld_lg1, ld_lg2, fill4, hst]
      exact endB_good (by simp)
    · simp only [Bool.not_eq_true] at hh
      simp only [hs, hh, List.length_nil, new_lg, new_ent, List.nil_append, List.length_singleton, List.singleton_append, List.cons_append, List.length_cons, Nat.reduceAdd, offA_ptr, offA_ip, Option.bind_some, Nat.zero_add, Nat.add_zero, ld_lg0_i, ld_lg0_t, ld_lg0_m, ld_lg0_e, ld_lg0, ld_ent0_t, ld_ent0_k, ld_ent0_d, ld_ent1_t, ld_ent1_k, ld_ent1_d, ld_ent0, ld_ent1, lenV_ents, lenV_ints, lenV_bys, lss_int, leq_int, gtr_int, geq_int, eql_int, neq_int, add_int, sub_int, splitK_dec, condK_dec, splitK_t, splitK_f, condK_t, condK_f, not_bool, List.drop_succ_cons, List.drop_zero, loadA_ipc, loadA_ent, extA_0, extA_1, Bool.not_true, Bool.not_false, Bool.false_eq_true, if_false, if_true, and_self, and_true, and_false, false_and, ld_ent2_t, ld_ent2_k, ld_ent2_d, neq_nil1, neq_nil2, eql_nil2, nili_eq, ld_base0, ld_base1_i, ld_base1_t, ld_base1_m, new_zlog, extA_2, ld_lg1, ld_lg2, fill0, hst1, ld_z1]
      exact (endB_frz (u := .tup [noLog.av, codeA 9]) (frz_tup (frzL_cons (frz_zlog _) (frzL_good _ [codeA 9] (by simp)))) (by simp))
  · simp only [Bool.not_eq_true] at hs
    simp only [hs, List.length_nil, new_lg, new_ent, List.nil_append, List.length_singleton, List.singleton_append, List.cons_append, List.length_cons, Nat.reduceAdd, offA_ptr, offA_ip, Option.bind_some, Nat.zero_add, Nat.add_zero, ld_lg0_i, ld_lg0_t, ld_lg0_m, ld_lg0_e, ld_lg0, ld_ent0_t, ld_ent0_k, ld_ent0_d, ld_ent1_t, ld_ent1_k, ld_ent1_d, ld_ent0, ld_ent1, lenV_ents, lenV_ints, lenV_bys, lss_int, leq_int, gtr_int, geq_int, eql_int, neq_int, add_int, sub_int, splitK_dec, condK_dec, splitK_t, splitK_f, condK_t, condK_f, not_bool, List.drop_succ_cons, List.drop_zero, loadA_ipc, loadA_ent, extA_0, extA_1, Bool.not_true, Bool.not_false, Bool.false_eq_true, if_false, if_true, and_self, and_true, and_false, false_and, ld_ent2_t, ld_ent2_k, ld_ent2_d, neq_nil1, neq_nil2, eql_nil2, nili_eq, ld_base0, ld_base1_i, ld_base1_t, ld_base1_m, new_zlog, extA_2, ld_lg1, ld_lg2, fill0, hst1, ld_z1]
    exact (endB_frz (u := .tup [noLog.av, codeA 3]) (frz_tup (frzL_cons (frz_zlog _) (frzL_good _ [codeA 3] (by simp)))) (by simp))
/-- a field of a struct is set -/
theorem sto_f {β : Type} {H : List AObj} {l z off : Nat} {cs : List AV} {v : AV} {K : List AObj → List Nat → Option β} (h : H[l]? = some (.row z [.agg cs])) (ho : off < cs.length) (hc : v.cells = [v]) (hv : v.one = true) :
    stoK 1 (.ptr l 1 0 off) v H K = K (H.set l (.row z [.agg (cs.set off v)])) (escs l [v]) := by
  have h2 : storeA 1 (.ptr l 1 0 off) v H = some (H.set l (.row z [.agg (cs.set off v)]), escs l [v]) := by
    unfold storeA; simp only [h, hc, List.length_singleton, List.all_cons, List.all_nil, hv, Bool.and_true]
    rw [if_pos ⟨trivial, trivial, trivial⟩]
    simp only [List.getElem?_cons_zero, Option.bind_some, setC, List.length_singleton]
    rw [if_pos (by omega)]
    simp [List.set_eq_take_append_cons_drop, ho]
  unfold stoK; rw [h2]; rfl
theorem appK_nils {β : Type} {H : List AObj} {z by_ : Nat} {ys : List AV} {y : AV} {K : AV → List AObj → List Nat → Option β} (hy : elemsA y H = some ys) (hne : ys ≠ []) (h1 : lz z ys = true) (h2 : 0 < z) (h3 : 0 < by_) (h4 : by_ ≤ 1048576) (h5 : ys.length * by_ ≤ 140737489400832) :
    appK z by_ .nils y H K = K (.slc H.length 0 ys.length ys.length) (H ++ [.row z ys]) [] := by
  have hb : ys.isEmpty = false := by cases ys <;> simp at hne ⊢
  simp [appK, hy, appendA, hne, h1, h2, h3, h4, h5]
theorem appK_nils0 {β : Type} {H : List AObj} {z by_ : Nat} {y : AV} {K : AV → List AObj → List Nat → Option β} (hy : elemsA y H = some []) : appK z by_ .nils y H K = K .nils H [] := by
  simp [appK, hy, appendA, lenA]
theorem rCompact_ok (g : Lg) (i : Int) (hg : LgOk g) (hs : soundL g = true) (hh : hasL g i = true) : EV C n_ref18_Compact [g.av, .int .i64 i] [] = some ((compactL g i).av, [], []) := by
  refine ref18_Compact_of ?_
  have hsm := sound_small hs
  have h0 := hsm.i0; have h1 := hsm.i1; have hmo : most = 1152921504606846976 := rfl
  have hb := hasL_iff.1 hh
  have hle := hg.e
  have w1 : IntKind.i64.wrap (i - g.index) = (((i - g.index).toNat : Nat) : Int) := w64 (by omega) (by omega)
  simp only [List.length_nil, new_lg, new_ent, List.nil_append, List.length_singleton, List.singleton_append, List.cons_append, List.length_cons, Nat.reduceAdd, offA_ptr, offA_ip, Option.bind_some, Nat.zero_add, Nat.add_zero, ld_lg0_i, ld_lg0_t, ld_lg0_m, ld_lg0_e, ld_lg0, ld_ent0_t, ld_ent0_k, ld_ent0_d, ld_ent1_t, ld_ent1_k, ld_ent1_d, ld_ent0, ld_ent1, lenV_ents, lenV_ints, lenV_bys, lss_int, leq_int, gtr_int, geq_int, eql_int, neq_int, add_int, sub_int, splitK_dec, condK_dec, splitK_t, splitK_f, condK_t, condK_f, not_bool, List.drop_succ_cons, List.drop_zero, loadA_ipc, loadA_ent, extA_0, extA_1, Bool.not_true, Bool.not_false, Bool.false_eq_true, if_false, if_true, and_self, and_true, and_false, false_and, ld_ent2_t, ld_ent2_k, ld_ent2_d, neq_nil1, neq_nil2, eql_nil2, nili_eq, ld_base0, ld_base1_i, ld_base1_t, ld_base1_m, new_zlog, extA_2, ld_lg1, ld_lg2]
  have ht : ∀ H, callD (EV C) n_ref18_Term [g.av, .int .i64 i] H = some (.int .i64 (termL g i)) := fun H => callD_ok (by simp) (rTerm_ok g i hsm hh)
  have hm : ∀ H, callD (EV C) n_ref18_Members [g.av, .int .i64 i] H = some (ints (membersL g i)) := fun H => callD_ok (by simp) (rMembers_ok g i hg hs)
  have hst : ∀ (o1 o2 : AObj) (K : List AObj → List Nat → Option R3), stoK 4 (.ptr 2 1 0 0) (.agg [.int .i64 i, .int .i64 (termL g i), ints (membersL g i), .nils]) [o1, o2, .row 4 [zlog]] K = K [o1, o2, .row 4 [.agg [.int .i64 i, .int .i64 (termL g i), ints (membersL g i), .nils]]] _ := fun o1 o2 K => sto_agg' (ds := [.int .i64 i, .int .i64 (termL g i), ints (membersL g i), .nils]) rfl rfl rfl
  have hl3 : ∀ (o1 o2 : AObj) (a b c d : AV) (T : List AObj), loadA false 1 (.ptr 2 1 0 3) (o1 :: o2 :: .row 4 [.agg [a, b, c, d]] :: T) = some d := fun _ _ _ _ _ _ _ => rfl
  have hl4 : ∀ (o1 o2 : AObj) (a b c d : AV) (T : List AObj), loadA true 4 (.ptr 2 1 0 0) (o1 :: o2 :: .row 4 [.agg [a, b, c, d]] :: T) = some (.agg [a, b, c, d]) := fun _ _ _ _ _ _ _ => rfl
  have hl5 : ∀ (o1 : AObj) (a b c d : AV) (T : List AObj), loadA true 4 (.ptr 1 1 0 0) (o1 :: .row 4 [.agg [a, b, c, d]] :: T) = some (.agg [a, b, c, d]) := fun _ _ _ _ _ _ => rfl
  have hst2 : ∀ (v : AV) (hv : v.one = true) (o1 : AObj) (T : List AObj) (K : List AObj → List Nat → Option R3), stoK 4 (.ptr 1 1 0 0) (.agg [.int .i64 i, .int .i64 (termL g i), ints (membersL g i), v]) (o1 :: .row 4 [zlog] :: T) K = K (o1 :: .row 4 [.agg [.int .i64 i, .int .i64 (termL g i), ints (membersL g i), v]] :: T) (escs 1 [.int .i64 i, .int .i64 (termL g i), ints (membersL g i), v]) := fun v hv o1 T K => by
    have : [AV.int .i64 i, .int .i64 (termL g i), ints (membersL g i), v].all AV.one = true := by
      show (true && (true && (true && (v.one && true)))) = true
      rw [hv]; rfl
    exact sto_agg' (ds := [.int .i64 i, .int .i64 (termL g i), ints (membersL g i), v]) rfl rfl this
  simp only [ht, hm, List.length_nil, new_lg, new_ent, List.nil_append, List.length_singleton, List.singleton_append, List.cons_append, List.length_cons, Nat.reduceAdd, offA_ptr, offA_ip, Option.bind_some, Nat.zero_add, Nat.add_zero, ld_lg0_i, ld_lg0_t, ld_lg0_m, ld_lg0_e, ld_lg0, ld_ent0_t, ld_ent0_k, ld_ent0_d, ld_ent1_t, ld_ent1_k, ld_ent1_d, ld_ent0, ld_ent1, lenV_ents, lenV_ints, lenV_bys, lss_int, leq_int, gtr_int, geq_int, eql_int, neq_int, add_int, sub_int, splitK_dec, condK_dec, splitK_t, splitK_f, condK_t, condK_f, not_bool, List.drop_succ_cons, List.drop_zero, loadA_ipc, loadA_ent, extA_0, extA_1, Bool.not_true, Bool.not_false, Bool.false_eq_true, if_false, if_true, and_self, and_true, and_false, false_and, ld_ent2_t, ld_ent2_k, ld_ent2_d, neq_nil1, neq_nil2, eql_nil2, nili_eq, ld_base0, ld_base1_i, ld_base1_t, ld_base1_m, new_zlog, extA_2, ld_lg1, ld_lg2, fill3, fill5, drawK_t, hst, hl3, w1, cut_tail (show (i - g.index).toNat ≤ g.es.length by omega)]
  by_cases he : g.es.drop (i - g.index).toNat = []
  · rw [appK_nils0 (by rw [he]; rfl)]
    rw [sto_f (off := 3) (cs := [.int .i64 i, .int .i64 (termL g i), ints (membersL g i), .nils]) rfl (by simp) rfl rfl]
    simp only [List.set_cons_succ, List.set_cons_zero, hl4, Option.bind_some]
    rw [hst2 .nils rfl]
    simp only [hl5, Option.bind_some]
    refine (endB_frz (u := (compactL g i).av) ?_ (by simp))
    unfold compactL Lg.av
    simp only [he]
    rfl
  · rw [appK_nils (ys := (g.es.drop (i - g.index).toNat).map Ent.av) rfl (by simpa using he) (lz_ents _) (by decide) (by decide) (by decide) (by simp; omega)]
    rw [sto_f (off := 3) (cs := [.int .i64 i, .int .i64 (termL g i), ints (membersL g i), .nils]) rfl (by simp) rfl rfl]
    simp only [List.length_cons, List.length_nil, Nat.reduceAdd, List.cons_append, List.nil_append, List.set_cons_succ, List.set_cons_zero, hl4, Option.bind_some]
    rw [hst2 (.slc 3 0 ((g.es.drop (i - g.index).toNat).map Ent.av).length ((g.es.drop (i - g.index).toNat).map Ent.av).length) rfl]
    simp only [hl5, Option.bind_some]
    refine (endB_frz (u := (compactL g i).av) ?_ (by simp))
    unfold compactL Lg.av
    exact frz_agg (frzL_cons rfl (frzL_cons rfl (frzL_cons rfl (frzL_cons (frz_row (z := 3) rfl rfl (goodL_ents _)) rfl))))
/-! ### the document's example -/
theorem up_ok : EV C n_law18_up [] [] = some (.bool true, [], []) := by
  refine law18_up_of ?_
  let g0 : Lg := ⟨3, 2, [1], [⟨4, 0, []⟩]⟩
  have e1 : ∀ (H : List AObj) (K : AV → List AObj → List Nat → Option R3), litK 1 1 (.int .i64 0) [(0, (.int .i64 1))] H K = K (ints [1]) H [] := fun H K => rfl
  have e2 : fillB (AV.cells (.agg [(.int .i64 0), (.int .i64 0), .nils])) [(0, 1, (.int .i64 3)), (1, 1, (.int .i64 2)), (2, 1, ints [1])] = some [.int .i64 3, .int .i64 2, ints [1]] := rfl
  have e3 : ∀ t, fillB (AV.cells (.agg [(.int .i64 0), (.int .i64 0), .nils])) [(0, 1, (.int .i64 t))] = some [.int .i64 t, .int .i64 0, .nils] := fun t => rfl
  have e4 : ∀ (t : Int) (H : List AObj) (K : AV → List AObj → List Nat → Option R3), litK 3 1 (.agg [(.int .i64 0), (.int .i64 0), .nils]) [(0, (.agg [.int .i64 t, .int .i64 0, .nils]))] H K = K (ents [⟨t, 0, []⟩]) H [] := fun t H K => rfl
  have e5 : ∀ (K : List AObj → List Nat → Option R3), stoK 4 (.ptr 0 1 0 0) (.agg [.int .i64 3, .int .i64 2, ints [1], ents [⟨4, 0, []⟩]]) [.row 4 [zlog]] K = K [.row 4 [g0.av]] [] := fun K => sto_lg g0 rfl
  have hg : LgOk g0 := ⟨by decide, by decide, fun e he => by simp [g0] at he; subst he; decide⟩
  have hs : soundL g0 = true := by decide
  simp only [List.length_nil, new_lg, new_ent, List.nil_append, List.length_singleton, List.singleton_append, List.cons_append, List.length_cons, Nat.reduceAdd, offA_ptr, offA_ip, Option.bind_some, Nat.zero_add, Nat.add_zero, ld_lg0_i, ld_lg0_t, ld_lg0_m, ld_lg0_e, ld_lg0, ld_ent0_t, ld_ent0_k, ld_ent0_d, ld_ent1_t, ld_ent1_k, ld_ent1_d, ld_ent0, ld_ent1, lenV_ents, lenV_ints, lenV_bys, lss_int, leq_int, gtr_int, geq_int, eql_int, neq_int, add_int, sub_int, splitK_dec, condK_dec, splitK_t, splitK_f, condK_t, condK_f, not_bool, List.drop_succ_cons, List.drop_zero, loadA_ipc, loadA_ent, extA_0, extA_1, Bool.not_true, Bool.not_false, Bool.false_eq_true, if_false, if_true, and_self, and_true, and_false, false_and, ld_ent2_t, ld_ent2_k, ld_ent2_d, neq_nil1, neq_nil2, eql_nil2, nili_eq, ld_base0, ld_base1_i, ld_base1_t, ld_base1_m, new_zlog, extA_2, ld_lg1, ld_lg2, e1, e2, e3, e4, fill4, e5]
  rw [callK_ok (by simp) (Last_ok g0 hg)]
  simp only [List.length_nil, new_lg, new_ent, List.nil_append, List.length_singleton, List.singleton_append, List.cons_append, List.length_cons, Nat.reduceAdd, offA_ptr, offA_ip, Option.bind_some, Nat.zero_add, Nat.add_zero, ld_lg0_i, ld_lg0_t, ld_lg0_m, ld_lg0_e, ld_lg0, ld_ent0_t, ld_ent0_k, ld_ent0_d, ld_ent1_t, ld_ent1_k, ld_ent1_d, ld_ent0, ld_ent1, lenV_ents, lenV_ints, lenV_bys, lss_int, leq_int, gtr_int, geq_int, eql_int, neq_int, add_int, sub_int, splitK_dec, condK_dec, splitK_t, splitK_f, condK_t, condK_f, not_bool, List.drop_succ_cons, List.drop_zero, loadA_ipc, loadA_ent, extA_0, extA_1, Bool.not_true, Bool.not_false, Bool.false_eq_true, if_false, if_true, and_self, and_true, and_false, false_and, ld_ent2_t, ld_ent2_k, ld_ent2_d, neq_nil1, neq_nil2, eql_nil2, nili_eq, ld_base0, ld_base1_i, ld_base1_t, ld_base1_m, new_zlog, extA_2, ld_lg1, ld_lg2]
  rw [callK_ok (by simp) (Merge_ok g0 hg (by decide) 3 [⟨5, 0, []⟩] (by decide) (fun e he => by simp at he; subst he; decide))]
  have hm : mergeA g0 3 [⟨5, 0, []⟩] = .tup [(joinL g0 0 [⟨5, 0, []⟩] 0).av, .int .i64 4, .nili] := by
    have h1 : hasL g0 3 = true := by decide
    have h2 : soundL (joinL g0 0 [⟨5, 0, []⟩] 0) = true := by decide
    have h3 : mergeL g0 3 [⟨5, 0, []⟩] = mergeK g0 0 [⟨5, 0, []⟩] 0 := rfl
    unfold mergeA
    rw [hs, h1, h3]
    unfold mergeK
    rw [h2]
    rfl
  rw [hm]
  have e6 : ∀ (o : AObj) (K : List AObj → List Nat → Option R3), stoK 4 (.ptr 1 1 0 0) (joinL g0 0 [⟨5, 0, []⟩] 0).av [o, .row 4 [zlog]] K = K [o, .row 4 [(joinL g0 0 [⟨5, 0, []⟩] 0).av]] [] := fun o K => sto_lg _ rfl
  have e7 : lastL g0 = 4 := by decide
  have e8 : termL g0 4 = 4 := by decide
  simp only [List.length_nil, new_lg, new_ent, List.nil_append, List.length_singleton, List.singleton_append, List.cons_append, List.length_cons, Nat.reduceAdd, offA_ptr, offA_ip, Option.bind_some, Nat.zero_add, Nat.add_zero, ld_lg0_i, ld_lg0_t, ld_lg0_m, ld_lg0_e, ld_lg0, ld_ent0_t, ld_ent0_k, ld_ent0_d, ld_ent1_t, ld_ent1_k, ld_ent1_d, ld_ent0, ld_ent1, lenV_ents, lenV_ints, lenV_bys, lss_int, leq_int, gtr_int, geq_int, eql_int, neq_int, add_int, sub_int, splitK_dec, condK_dec, splitK_t, splitK_f, condK_t, condK_f, not_bool, List.drop_succ_cons, List.drop_zero, loadA_ipc, loadA_ent, extA_0, extA_1, Bool.not_true, Bool.not_false, Bool.false_eq_true, if_false, if_true, and_self, and_true, and_false, false_and, ld_ent2_t, ld_ent2_k, ld_ent2_d, neq_nil1, neq_nil2, eql_nil2, nili_eq, ld_base0, ld_base1_i, ld_base1_t, ld_base1_m, new_zlog, extA_2, ld_lg1, ld_lg2, e6, hs, e7, e8, decide_true]
  exact endB_good rfl
end Go.Pm

