/- A part of the proof: what the functions of the program answer, as plain lists and numbers. -/
import Derived.Test.YtdihhoglamkfkaaL10
namespace Go.Pm
open Go.Proofs
set_option linter.unusedVariables false
set_option linter.unusedSimpArgs false
/-! ### the document's Merge -/
def mAV' (r : Lg × Int × Int) : AV := .tup [r.1.av, .int .i64 r.2.1, .int .i64 r.2.2]
def rawLg (g : Lg) (n : Nat) : AV := .agg [.int .i64 g.index, .int .i64 g.term, ints g.mems, .slc 3 0 n n]
theorem frz_rawLg (g : Lg) (n : Nat) (H : List AObj) (h : H[3]? = some (.row 3 (g.es.map Ent.av))) (hn : n = g.es.length) : frz H (rawLg g n) = some g.av :=
  frz_agg (frzL_cons rfl (frzL_cons rfl (frzL_cons rfl (frzL_cons (frz_row (z := 3) h (by simp [hn]) (goodL_ents _)) rfl))))
theorem endB_app {v : AV} {H : List AObj} {A B : List Nat} : endB false false 0 v H (A ++ B) = endB false false 0 v H [] := by simp [endB, endA]
theorem rmerge_tail (g : Lg) (hg : LgOk g) (hge : g.es.length < 2^39) (hs : soundL g = true) (e : List Ent) (he : e.length < 2^39) (hd : lightP e) (p i : Nat) (hp : p + i ≤ g.es.length) (hi : i < e.length) (L : Nat) (hL : L = (joinL g p e i).es.length) (H27 : List AObj) (hH : H27 = [.row 4 [g.av], .row 4 [zlog], .row 4 [rawLg (joinL g p e i) L], .row 3 ((joinL g p e i).es.map Ent.av)]) :
    ((loadA true 4 (.ptr 2 1 0 0) H27).bind fun a28 =>
    callK (EV C) false n_ref18_Check [a28] H27 fun a29 H29 E29 =>
    (unA .not a29).bind fun a30 =>
    condK a30
      ((fillB (AV.cells (.agg [(.int .i64 0), (.int .i64 0), .nils, .nils])) []).bind fun c31 =>
      stoK 4 (.ptr 1 1 0 0) (.agg c31) H29 fun H32 E32 =>
      (loadA true 4 (.ptr 1 1 0 0) H32).bind fun a33 =>
      endB false false 0 (.tup [a33, (.int .i64 0), (.int .i64 3)]) H32 [])
      ((loadA true 4 (.ptr 2 1 0 0) H29).bind fun a34 =>
      (offA (.ptr 0 1 0 0) 0).bind fun a35 =>
      (offA a35 0).bind fun a36 =>
      (loadA false 1 a36 H29).bind fun a37 =>
      (binA .add (Go.TypeDesc.int Go.IntKind.i64) (cmpT Try.prog) false a37 (.int .i64 ((p + i : Nat) : Int))).bind fun a38 =>
      (binA .add (Go.TypeDesc.int Go.IntKind.i64) (cmpT Try.prog) true a38 (.int .i64 1)).bind fun a39 =>
      stoK 4 (.ptr 1 1 0 0) a34 H29 fun H40 E40 =>
      drawK (((loadA false 1 a36 H40).bind fun a41 =>
      some a41) = some a37)
      ((loadA true 4 (.ptr 1 1 0 0) H40).bind fun a42 =>
      endB false false 0 (.tup [a42, a39, (.int .i64 0)]) H40 []))) = some (mAV' (mergeK g p e i), [], []) := by
  subst hH
  have hsm := sound_small hs
  have h0 := hsm.i0; have h1 := hsm.i1; have hmo : most = 1152921504606846976 := rfl
  have hj := join_ok hg he hge hd p i
  have hl4 : ∀ (o1 o2 : AObj) (v : AV) (T : List AObj), loadA true 4 (.ptr 2 1 0 0) (o1 :: o2 :: .row 4 [rawLg (joinL g p e i) L] :: T) = some (rawLg (joinL g p e i) L) := fun _ _ _ _ => rfl
  have hl5 : ∀ (o1 : AObj) (T : List AObj), loadA true 4 (.ptr 1 1 0 0) (o1 :: .row 4 [rawLg (joinL g p e i) L] :: T) = some (rawLg (joinL g p e i) L) := fun _ _ => rfl
  have w1 : IntKind.i64.wrap (g.index + ((p + i : Nat) : Int)) = g.index + ((p + i : Nat) : Int) := by rw [wrap64] <;> omega
  have w2 : IntKind.i64.wrap (g.index + ((p + i : Nat) : Int) + 1) = g.index + ((p + i : Nat) : Int) + 1 := by rw [wrap64] <;> omega
  have hst1 : ∀ (o1 o3 o4 : AObj) (K : List AObj → List Nat → Option R3), stoK 4 (.ptr 1 1 0 0) (.agg [(.int .i64 0), (.int .i64 0), .nils, .nils]) [o1, .row 4 [zlog], o3, o4] K = K [o1, .row 4 [zlog], o3, o4] [] := fun o1 o3 o4 K => sto_zlog rfl
  have hst2 : ∀ (o1 o3 o4 : AObj) (K : List AObj → List Nat → Option R3), stoK 4 (.ptr 1 1 0 0) (rawLg (joinL g p e i) L) [o1, .row 4 [zlog], o3, o4] K = K [o1, .row 4 [rawLg (joinL g p e i) L], o3, o4] (escs 1 [.int .i64 (joinL g p e i).index, .int .i64 (joinL g p e i).term, ints (joinL g p e i).mems, .slc 3 0 L L]) := fun o1 o3 o4 K =>
    sto_agg' (ds := [.int .i64 (joinL g p e i).index, .int .i64 (joinL g p e i).term, ints (joinL g p e i).mems, .slc 3 0 L L]) rfl rfl rfl
  simp only [hl4 _ _ .bad, List.length_nil, new_lg, new_ent, List.nil_append, List.length_singleton, List.singleton_append, List.cons_append, List.length_cons, Nat.reduceAdd, offA_ptr, offA_ip, Option.bind_some, Nat.zero_add, Nat.add_zero, ld_lg0_i, ld_lg0_t, ld_lg0_m, ld_lg0_e, ld_lg0, ld_ent0_t, ld_ent0_k, ld_ent0_d, ld_ent1_t, ld_ent1_k, ld_ent1_d, ld_ent0, ld_ent1, lenV_ents, lenV_ints, lenV_bys, lss_int, leq_int, gtr_int, geq_int, eql_int, neq_int, add_int, sub_int, splitK_dec, condK_dec, splitK_t, splitK_f, condK_t, condK_f, not_bool, List.drop_succ_cons, List.drop_zero, loadA_ipc, loadA_ent, extA_0, extA_1, Bool.not_true, Bool.not_false, Bool.false_eq_true, if_false, if_true, and_self, and_true, and_false, false_and, ld_ent2_t, ld_ent2_k, ld_ent2_d, neq_nil1, neq_nil2, eql_nil2, nili_eq, ld_base0, ld_base1_i, ld_base1_t, ld_base1_m, new_zlog, extA_2, ld_lg1, ld_lg2]
  rw [callK_flat (bs := [(joinL g p e i).av]) (frzL_cons (frz_rawLg _ _ _ rfl hL) rfl) (by simp) (rCheck_ok _ hj.m (by have := hj.e; omega) hj.d) rfl]
  unfold mergeK
  have hne : ¬ i = e.length := by omega
  rw [if_neg hne]
  by_cases hsj : soundL (joinL g p e i) = true
  · simp only [hsj, hl4 _ _ .bad, List.length_nil, new_lg, new_ent, List.nil_append, List.length_singleton, List.singleton_append, List.cons_append, List.length_cons, Nat.reduceAdd, offA_ptr, offA_ip, Option.bind_some, Nat.zero_add, Nat.add_zero, ld_lg0_i, ld_lg0_t, ld_lg0_m, ld_lg0_e, ld_lg0, ld_ent0_t, ld_ent0_k, ld_ent0_d, ld_ent1_t, ld_ent1_k, ld_ent1_d, ld_ent0, ld_ent1, lenV_ents, lenV_ints, lenV_bys, lss_int, leq_int, gtr_int, geq_int, eql_int, neq_int, add_int, sub_int, splitK_dec, condK_dec, splitK_t, splitK_f, condK_t, condK_f, not_bool, List.drop_succ_cons, List.drop_zero, loadA_ipc, loadA_ent, extA_0, extA_1, Bool.not_true, Bool.not_false, Bool.false_eq_true, if_false, if_true, and_self, and_true, and_false, false_and, ld_ent2_t, ld_ent2_k, ld_ent2_d, neq_nil1, neq_nil2, eql_nil2, nili_eq, ld_base0, ld_base1_i, ld_base1_t, ld_base1_m, new_zlog, extA_2, ld_lg1, ld_lg2, w1, w2, hst2, drawK_t, hl5]
    refine (endB_frz (u := .tup [(joinL g p e i).av, .int .i64 (g.index + ((p + i : Nat) : Int) + 1), .int .i64 0]) (frz_tup (frzL_cons (frz_rawLg _ _ _ rfl hL) rfl)) (by simp)).trans ?_
    unfold mAV'
    simp only
    rw [show g.index + ((p + i : Nat) : Int) + 1 = g.index + p + i + 1 by omega]
  · simp only [Bool.not_eq_true] at hsj
    simp only [hsj, List.length_nil, new_lg, new_ent, List.nil_append, List.length_singleton, List.singleton_append, List.cons_append, List.length_cons, Nat.reduceAdd, offA_ptr, offA_ip, Option.bind_some, Nat.zero_add, Nat.add_zero, ld_lg0_i, ld_lg0_t, ld_lg0_m, ld_lg0_e, ld_lg0, ld_ent0_t, ld_ent0_k, ld_ent0_d, ld_ent1_t, ld_ent1_k, ld_ent1_d, ld_ent0, ld_ent1, lenV_ents, lenV_ints, lenV_bys, lss_int, leq_int, gtr_int, geq_int, eql_int, neq_int, add_int, sub_int, splitK_dec, condK_dec, splitK_t, splitK_f, condK_t, condK_f, not_bool, List.drop_succ_cons, List.drop_zero, loadA_ipc, loadA_ent, extA_0, extA_1, Bool.not_true, Bool.not_false, Bool.false_eq_true, if_false, if_true, and_self, and_true, and_false, false_and, ld_ent2_t, ld_ent2_k, ld_ent2_d, neq_nil1, neq_nil2, eql_nil2, nili_eq, ld_base0, ld_base1_i, ld_base1_t, ld_base1_m, new_zlog, extA_2, ld_lg1, ld_lg2, fill0, hst1, ld_z1]
    exact (endB_frz (u := .tup [noLog.av, .int .i64 0, .int .i64 3]) (frz_tup (frzL_cons (frz_zlog _) rfl)) (by simp)).trans rfl
theorem fill6 (g : Lg) : fillB (AV.cells (.agg [(.int .i64 0), (.int .i64 0), .nils, .nils])) [(0, 3, g.base)] = some [.int .i64 g.index, .int .i64 g.term, ints g.mems, .nils] := rfl
theorem rmerge_S9 (g : Lg) (hg : LgOk g) (hge : g.es.length < 2^39) (hs : soundL g = true) (e : List Ent) (he : e.length < 2^39) (hd : lightP e) (p i : Nat) (hp : p + i ≤ g.es.length) (hi : i ≤ e.length) (E : List Nat) :
    ref18_Merge_S9 0 (ents e) (.ptr 0 1 0 0) (.ptr 1 1 0 0) (.int .i64 ((p + i : Nat) : Int)) (.int .i64 (i : Int)) [.row 4 [g.av], .row 4 [zlog]] E = some (mAV' (mergeK g p e i), [], []) := by
  refine ref18_Merge_S9_of ?_
  have hsm := sound_small hs
  have h0 := hsm.i0; have h1 := hsm.i1; have hmo : most = 1152921504606846976 := rfl
  by_cases hie : i = e.length
  · have e1 : decide ((i : Int) = (e.length : Int)) = true := by simp [hie]
    have w1 : IntKind.i64.wrap (lastL g + 1) = lastL g + 1 := by unfold lastL; rw [wrap64] <;> omega
    simp only [show (i : Int) = (e.length : Int) from by omega, if_true, eq_self, List.length_nil, new_lg, new_ent, List.nil_append, List.length_singleton, List.singleton_append, List.cons_append, List.length_cons, Nat.reduceAdd, offA_ptr, offA_ip, Option.bind_some, Nat.zero_add, Nat.add_zero, ld_lg0_i, ld_lg0_t, ld_lg0_m, ld_lg0_e, ld_lg0, ld_ent0_t, ld_ent0_k, ld_ent0_d, ld_ent1_t, ld_ent1_k, ld_ent1_d, ld_ent0, ld_ent1, lenV_ents, lenV_ints, lenV_bys, lss_int, leq_int, gtr_int, geq_int, eql_int, neq_int, add_int, sub_int, splitK_dec, condK_dec, splitK_t, splitK_f, condK_t, condK_f, not_bool, List.drop_succ_cons, List.drop_zero, loadA_ipc, loadA_ent, extA_0, extA_1, Bool.not_true, Bool.not_false, Bool.false_eq_true, if_false, if_true, and_self, and_true, and_false, false_and, ld_ent2_t, ld_ent2_k, ld_ent2_d, neq_nil1, neq_nil2, eql_nil2, nili_eq, ld_base0, ld_base1_i, ld_base1_t, ld_base1_m, new_zlog, extA_2, ld_lg1, ld_lg2]
    rw [callD_ok (by simp) (rLast_ok g hsm)]
    simp only [List.length_nil, new_lg, new_ent, List.nil_append, List.length_singleton, List.singleton_append, List.cons_append, List.length_cons, Nat.reduceAdd, offA_ptr, offA_ip, Option.bind_some, Nat.zero_add, Nat.add_zero, ld_lg0_i, ld_lg0_t, ld_lg0_m, ld_lg0_e, ld_lg0, ld_ent0_t, ld_ent0_k, ld_ent0_d, ld_ent1_t, ld_ent1_k, ld_ent1_d, ld_ent0, ld_ent1, lenV_ents, lenV_ints, lenV_bys, lss_int, leq_int, gtr_int, geq_int, eql_int, neq_int, add_int, sub_int, splitK_dec, condK_dec, splitK_t, splitK_f, condK_t, condK_f, not_bool, List.drop_succ_cons, List.drop_zero, loadA_ipc, loadA_ent, extA_0, extA_1, Bool.not_true, Bool.not_false, Bool.false_eq_true, if_false, if_true, and_self, and_true, and_false, false_and, ld_ent2_t, ld_ent2_k, ld_ent2_d, neq_nil1, neq_nil2, eql_nil2, nili_eq, ld_base0, ld_base1_i, ld_base1_t, ld_base1_m, new_zlog, extA_2, ld_lg1, ld_lg2, w1]
    rw [sto_lg g rfl]
    simp only [List.set_cons_succ, List.set_cons_zero, List.length_nil, new_lg, new_ent, List.nil_append, List.length_singleton, List.singleton_append, List.cons_append, List.length_cons, Nat.reduceAdd, offA_ptr, offA_ip, Option.bind_some, Nat.zero_add, Nat.add_zero, ld_lg0_i, ld_lg0_t, ld_lg0_m, ld_lg0_e, ld_lg0, ld_ent0_t, ld_ent0_k, ld_ent0_d, ld_ent1_t, ld_ent1_k, ld_ent1_d, ld_ent0, ld_ent1, lenV_ents, lenV_ints, lenV_bys, lss_int, leq_int, gtr_int, geq_int, eql_int, neq_int, add_int, sub_int, splitK_dec, condK_dec, splitK_t, splitK_f, condK_t, condK_f, not_bool, List.drop_succ_cons, List.drop_zero, loadA_ipc, loadA_ent, extA_0, extA_1, Bool.not_true, Bool.not_false, Bool.false_eq_true, if_false, if_true, and_self, and_true, and_false, false_and, ld_ent2_t, ld_ent2_k, ld_ent2_d, neq_nil1, neq_nil2, eql_nil2, nili_eq, ld_base0, ld_base1_i, ld_base1_t, ld_base1_m, new_zlog, extA_2, ld_lg1, ld_lg2]
    unfold mergeK; rw [if_pos hie]
    exact endB_good (by simp)
  · have e1 : ¬ ((i : Int) = (e.length : Int)) := by omega
    simp only [List.length_nil, new_lg, new_ent, List.nil_append, List.length_singleton, List.singleton_append, List.cons_append, List.length_cons, Nat.reduceAdd, offA_ptr, offA_ip, Option.bind_some, Nat.zero_add, Nat.add_zero, ld_lg0_i, ld_lg0_t, ld_lg0_m, ld_lg0_e, ld_lg0, ld_ent0_t, ld_ent0_k, ld_ent0_d, ld_ent1_t, ld_ent1_k, ld_ent1_d, ld_ent0, ld_ent1, lenV_ents, lenV_ints, lenV_bys, lss_int, leq_int, gtr_int, geq_int, eql_int, neq_int, add_int, sub_int, splitK_dec, condK_dec, splitK_t, splitK_f, condK_t, condK_f, not_bool, List.drop_succ_cons, List.drop_zero, loadA_ipc, loadA_ent, extA_0, extA_1, Bool.not_true, Bool.not_false, Bool.false_eq_true, if_false, if_true, and_self, and_true, and_false, false_and, ld_ent2_t, ld_ent2_k, ld_ent2_d, neq_nil1, neq_nil2, eql_nil2, nili_eq, ld_base0, ld_base1_i, ld_base1_t, ld_base1_m, new_zlog, extA_2, ld_lg1, ld_lg2, e1, ld_base0, fill6]
    have hst : ∀ (o1 o2 : AObj) (K : List AObj → List Nat → Option R3), stoK 4 (.ptr 2 1 0 0) (.agg [.int .i64 g.index, .int .i64 g.term, ints g.mems, .nils]) [o1, o2, .row 4 [zlog]] K = K [o1, o2, .row 4 [.agg [.int .i64 g.index, .int .i64 g.term, ints g.mems, .nils]]] (escs 2 [.int .i64 g.index, .int .i64 g.term, ints g.mems, .nils]) := fun o1 o2 K => sto_agg' (ds := [.int .i64 g.index, .int .i64 g.term, ints g.mems, .nils]) rfl rfl rfl
    have hl3 : ∀ (o1 o2 : AObj) (a b c d : AV) (T : List AObj), loadA false 1 (.ptr 2 1 0 3) (o1 :: o2 :: .row 4 [.agg [a, b, c, d]] :: T) = some d := fun _ _ _ _ _ _ _ => rfl
    have c1 : ∀ H, cutA 3 (ents g.es) none (some (.int .i64 ((p + i : Nat) : Int))) none H = some (ents (g.es.take (p + i))) := fun H => by
      rw [cutA_ents (i := 0) (j := p + i) rfl rfl (by omega) hp, List.drop_zero]
    have c2 : ∀ H, cutA 3 (ents e) (some (.int .i64 (i : Int))) none none H = some (ents (e.drop i)) := fun H => by
      rw [cutA_ents (i := i) (j := e.length) rfl rfl (by omega) (Nat.le_refl _), List.take_length]
    have hne2 : (e.drop i).map Ent.av ≠ [] := by
      intro h
      have := congrArg List.length h
      simp at this
      omega
    simp only [hst, hl3, List.length_nil, new_lg, new_ent, List.nil_append, List.length_singleton, List.singleton_append, List.cons_append, List.length_cons, Nat.reduceAdd, offA_ptr, offA_ip, Option.bind_some, Nat.zero_add, Nat.add_zero, ld_lg0_i, ld_lg0_t, ld_lg0_m, ld_lg0_e, ld_lg0, ld_ent0_t, ld_ent0_k, ld_ent0_d, ld_ent1_t, ld_ent1_k, ld_ent1_d, ld_ent0, ld_ent1, lenV_ents, lenV_ints, lenV_bys, lss_int, leq_int, gtr_int, geq_int, eql_int, neq_int, add_int, sub_int, splitK_dec, condK_dec, splitK_t, splitK_f, condK_t, condK_f, not_bool, List.drop_succ_cons, List.drop_zero, loadA_ipc, loadA_ent, extA_0, extA_1, Bool.not_true, Bool.not_false, Bool.false_eq_true, if_false, if_true, and_self, and_true, and_false, false_and, ld_ent2_t, ld_ent2_k, ld_ent2_d, neq_nil1, neq_nil2, eql_nil2, nili_eq, ld_base0, ld_base1_i, ld_base1_t, ld_base1_m, new_zlog, extA_2, ld_lg1, ld_lg2, c1]
    by_cases ht : g.es.take (p + i) = []
    · rw [appK_nils0 (by rw [ht]; rfl)]
      rw [sto_f (off := 3) (cs := [.int .i64 g.index, .int .i64 g.term, ints g.mems, .nils]) rfl (by simp) rfl rfl]
      simp only [List.set_cons_succ, List.set_cons_zero, hl3, List.length_nil, new_lg, new_ent, List.nil_append, List.length_singleton, List.singleton_append, List.cons_append, List.length_cons, Nat.reduceAdd, offA_ptr, offA_ip, Option.bind_some, Nat.zero_add, Nat.add_zero, ld_lg0_i, ld_lg0_t, ld_lg0_m, ld_lg0_e, ld_lg0, ld_ent0_t, ld_ent0_k, ld_ent0_d, ld_ent1_t, ld_ent1_k, ld_ent1_d, ld_ent0, ld_ent1, lenV_ents, lenV_ints, lenV_bys, lss_int, leq_int, gtr_int, geq_int, eql_int, neq_int, add_int, sub_int, splitK_dec, condK_dec, splitK_t, splitK_f, condK_t, condK_f, not_bool, List.drop_succ_cons, List.drop_zero, loadA_ipc, loadA_ent, extA_0, extA_1, Bool.not_true, Bool.not_false, Bool.false_eq_true, if_false, if_true, and_self, and_true, and_false, false_and, ld_ent2_t, ld_ent2_k, ld_ent2_d, neq_nil1, neq_nil2, eql_nil2, nili_eq, ld_base0, ld_base1_i, ld_base1_t, ld_base1_m, new_zlog, extA_2, ld_lg1, ld_lg2, c2]
      rw [appK_nils (ys := (e.drop i).map Ent.av) rfl hne2 (lz_ents _) (by decide) (by decide) (by decide) (by simp; omega)]
      rw [sto_f (off := 3) (cs := [.int .i64 g.index, .int .i64 g.term, ints g.mems, .nils]) rfl (by simp) rfl rfl]
      simp only [List.set_cons_succ, List.set_cons_zero, List.length_cons, List.length_nil, Nat.reduceAdd, List.cons_append, List.nil_append]
      simp only [endB_app]
      refine rmerge_tail g hg hge hs e he hd p i hp (by omega) ((e.drop i).map Ent.av).length (by simp [joinL, ht]) _ ?_
      simp only [rawLg, joinL, ht, List.nil_append]
    · rw [appK_nils (ys := (g.es.take (p + i)).map Ent.av) rfl (by simpa using ht) (lz_ents _) (by decide) (by decide) (by decide) (by simp; omega)]
      rw [sto_f (off := 3) (cs := [.int .i64 g.index, .int .i64 g.term, ints g.mems, .nils]) rfl (by simp) rfl rfl]
      simp only [List.set_cons_succ, List.set_cons_zero, List.length_cons, List.length_nil, Nat.reduceAdd, List.cons_append, List.nil_append, hl3, List.length_nil, new_lg, new_ent, List.nil_append, List.length_singleton, List.singleton_append, List.cons_append, List.length_cons, Nat.reduceAdd, offA_ptr, offA_ip, Option.bind_some, Nat.zero_add, Nat.add_zero, ld_lg0_i, ld_lg0_t, ld_lg0_m, ld_lg0_e, ld_lg0, ld_ent0_t, ld_ent0_k, ld_ent0_d, ld_ent1_t, ld_ent1_k, ld_ent1_d, ld_ent0, ld_ent1, lenV_ents, lenV_ints, lenV_bys, lss_int, leq_int, gtr_int, geq_int, eql_int, neq_int, add_int, sub_int, splitK_dec, condK_dec, splitK_t, splitK_f, condK_t, condK_f, not_bool, List.drop_succ_cons, List.drop_zero, loadA_ipc, loadA_ent, extA_0, extA_1, Bool.not_true, Bool.not_false, Bool.false_eq_true, if_false, if_true, and_self, and_true, and_false, false_and, ld_ent2_t, ld_ent2_k, ld_ent2_d, neq_nil1, neq_nil2, eql_nil2, nili_eq, ld_base0, ld_base1_i, ld_base1_t, ld_base1_m, new_zlog, extA_2, ld_lg1, ld_lg2, c2]
      rw [appK_row (es := (g.es.take (p + i)).map Ent.av) (ys := (e.drop i).map Ent.av) rfl rfl rfl (lz_ents _) (by decide) (by decide) (by decide) (by simp; omega)]
      simp only [List.set_cons_succ, List.set_cons_zero]
      rw [sto_f (off := 3) (cs := [.int .i64 g.index, .int .i64 g.term, ints g.mems, .slc 3 0 ((g.es.take (p + i)).map Ent.av).length ((g.es.take (p + i)).map Ent.av).length]) rfl (by simp) rfl rfl]
      simp only [List.set_cons_succ, List.set_cons_zero]
      simp only [endB_app]
      refine rmerge_tail g hg hge hs e he hd p i hp (by omega) (((g.es.take (p + i)).map Ent.av).length + ((e.drop i).map Ent.av).length) (by simp [joinL]) _ ?_
      simp only [rawLg, joinL, List.map_append]
theorem rmerge_loop (g : Lg) (hg : LgOk g) (hge : g.es.length < 2^39) (hs : soundL g = true) (e : List Ent) (he : e.length < 2^39) (hd : lightP e) (p : Nat) (hp : p ≤ g.es.length) : ∀ (m i : Nat) (E : List Nat), i + m = e.length → p + i ≤ g.es.length → mch (g.es.drop p) e = i + mch (g.es.drop (p + i)) (e.drop i) →
    ref18_Merge_J6 0 (ents e) (.ptr 0 1 0 0) (.ptr 1 1 0 0) (.int .i64 ((p + i : Nat) : Int)) (.int .i64 i) [.row 4 [g.av], .row 4 [zlog]] E = some (mAV' (mergeK g p e (mch (g.es.drop p) e)), [], []) := by
  intro m
  induction m with
  | zero =>
    intro i E h hpi hm
    refine ref18_Merge_J6_of ?_
    have e1 : ¬ ((i : Int) < (e.length : Int)) := by omega
    have e2 : e.drop i = [] := List.drop_eq_nil_of_le (by omega)
    have e3 : mch (g.es.drop p) e = i := by rw [hm, e2]; have := (mch_le (g.es.drop (p + i)) []).2; simp at this; omega
    simp only [List.length_nil, new_lg, new_ent, List.nil_append, List.length_singleton, List.singleton_append, List.cons_append, List.length_cons, Nat.reduceAdd, offA_ptr, offA_ip, Option.bind_some, Nat.zero_add, Nat.add_zero, ld_lg0_i, ld_lg0_t, ld_lg0_m, ld_lg0_e, ld_lg0, ld_ent0_t, ld_ent0_k, ld_ent0_d, ld_ent1_t, ld_ent1_k, ld_ent1_d, ld_ent0, ld_ent1, lenV_ents, lenV_ints, lenV_bys, lss_int, leq_int, gtr_int, geq_int, eql_int, neq_int, add_int, sub_int, splitK_dec, condK_dec, splitK_t, splitK_f, condK_t, condK_f, not_bool, List.drop_succ_cons, List.drop_zero, loadA_ipc, loadA_ent, extA_0, extA_1, Bool.not_true, Bool.not_false, Bool.false_eq_true, if_false, if_true, and_self, and_true, and_false, false_and, ld_ent2_t, ld_ent2_k, ld_ent2_d, neq_nil1, neq_nil2, eql_nil2, nili_eq, ld_base0, ld_base1_i, ld_base1_t, ld_base1_m, new_zlog, extA_2, ld_lg1, ld_lg2, e1]
    rw [e3]
    exact rmerge_S9 g hg hge hs e he hd p i hpi (by omega) _
  | succ m ih =>
    intro i E h hpi hm
    refine ref18_Merge_J6_of ?_
    have hi : i < e.length := by omega
    have e1 : ((i : Int) < (e.length : Int)) := by omega
    have hget := List.getElem?_eq_getElem hi
    have hdr : e.drop i = e[i] :: e.drop (i + 1) := List.drop_eq_getElem_cons hi
    generalize e[i] = x at hget hdr
    have w3 : IntKind.i64.wrap ((i : Int) + 1) = ((i + 1 : Nat) : Int) := w64 (by omega) (by omega)
    have w4 : IntKind.i64.wrap (((p + i : Nat) : Int) + 1) = ((p + (i + 1) : Nat) : Int) := w64 (by omega) (by omega)
    simp only [List.length_nil, new_lg, new_ent, List.nil_append, List.length_singleton, List.singleton_append, List.cons_append, List.length_cons, Nat.reduceAdd, offA_ptr, offA_ip, Option.bind_some, Nat.zero_add, Nat.add_zero, ld_lg0_i, ld_lg0_t, ld_lg0_m, ld_lg0_e, ld_lg0, ld_ent0_t, ld_ent0_k, ld_ent0_d, ld_ent1_t, ld_ent1_k, ld_ent1_d, ld_ent0, ld_ent1, lenV_ents, lenV_ints, lenV_bys, lss_int, leq_int, gtr_int, geq_int, eql_int, neq_int, add_int, sub_int, splitK_dec, condK_dec, splitK_t, splitK_f, condK_t, condK_f, not_bool, List.drop_succ_cons, List.drop_zero, loadA_ipc, loadA_ent, extA_0, extA_1, Bool.not_true, Bool.not_false, Bool.false_eq_true, if_false, if_true, and_self, and_true, and_false, false_and, ld_ent2_t, ld_ent2_k, ld_ent2_d, neq_nil1, neq_nil2, eql_nil2, nili_eq, ld_base0, ld_base1_i, ld_base1_t, ld_base1_m, new_zlog, extA_2, ld_lg1, ld_lg2, e1, decide_true]
    split
    · rename_i hle
      have hlt : p + i < g.es.length := by omega
      have hy := List.getElem?_eq_getElem hlt
      have hyd : g.es.drop (p + i) = g.es[p + i] :: g.es.drop (p + i + 1) := List.drop_eq_getElem_cons hlt
      generalize g.es[p + i] = y at hy hyd
      rw [hdr, hyd] at hm
      simp only [mch] at hm
      simp only [ixA_ents hy, ixA_ents hget, List.length_nil, new_lg, new_ent, List.nil_append, List.length_singleton, List.singleton_append, List.cons_append, List.length_cons, Nat.reduceAdd, offA_ptr, offA_ip, Option.bind_some, Nat.zero_add, Nat.add_zero, ld_lg0_i, ld_lg0_t, ld_lg0_m, ld_lg0_e, ld_lg0, ld_ent0_t, ld_ent0_k, ld_ent0_d, ld_ent1_t, ld_ent1_k, ld_ent1_d, ld_ent0, ld_ent1, lenV_ents, lenV_ints, lenV_bys, lss_int, leq_int, gtr_int, geq_int, eql_int, neq_int, add_int, sub_int, splitK_dec, condK_dec, splitK_t, splitK_f, condK_t, condK_f, not_bool, List.drop_succ_cons, List.drop_zero, loadA_ipc, loadA_ent, extA_0, extA_1, Bool.not_true, Bool.not_false, Bool.false_eq_true, if_false, if_true, and_self, and_true, and_false, false_and, ld_ent2_t, ld_ent2_k, ld_ent2_d, neq_nil1, neq_nil2, eql_nil2, nili_eq, ld_base0, ld_base1_i, ld_base1_t, ld_base1_m, new_zlog, extA_2, ld_lg1, ld_lg2]
      split
      · rename_i ht
        rw [if_pos ht] at hm
        simp only [w3, w4]
        exact ih (i + 1) E (by omega) (by omega) (by rw [hm, Nat.add_assoc p i 1]; omega)
      · rename_i ht
        rw [if_neg ht] at hm
        rw [hm]
        exact rmerge_S9 g hg hge hs e he hd p i hpi (by omega) _
    · rename_i hle
      have : g.es.drop (p + i) = [] := List.drop_eq_nil_of_le (by omega)
      rw [this] at hm
      simp only [mch] at hm
      rw [hm]
      exact rmerge_S9 g hg hge hs e he hd p i hpi (by omega) _
theorem rMerge_ok (g : Lg) (hg : LgOk g) (hge : g.es.length < 2^39) (hs : soundL g = true) (prev : Int) (e : List Ent) (he : e.length < 2^39) (hd : lightP e) : EV C n_ref18_Merge [g.av, .int .i64 prev, ents e] [] = some (if hasL g prev = true then mAV' (mergeL g prev e) else mAV' (noLog, 0, 9), [], []) := by
  refine ref18_Merge_of ?_
  have hsm := sound_small hs
  have h0 := hsm.i0; have h1 := hsm.i1; have hmo : most = 1152921504606846976 := rfl
  simp only [List.length_nil, new_lg, new_ent, List.nil_append, List.length_singleton, List.singleton_append, List.cons_append, List.length_cons, Nat.reduceAdd, offA_ptr, offA_ip, Option.bind_some, Nat.zero_add, Nat.add_zero, ld_lg0_i, ld_lg0_t, ld_lg0_m, ld_lg0_e, ld_lg0, ld_ent0_t, ld_ent0_k, ld_ent0_d, ld_ent1_t, ld_ent1_k, ld_ent1_d, ld_ent0, ld_ent1, lenV_ents, lenV_ints, lenV_bys, lss_int, leq_int, gtr_int, geq_int, eql_int, neq_int, add_int, sub_int, splitK_dec, condK_dec, splitK_t, splitK_f, condK_t, condK_f, not_bool, List.drop_succ_cons, List.drop_zero, loadA_ipc, loadA_ent, extA_0, extA_1, Bool.not_true, Bool.not_false, Bool.false_eq_true, if_false, if_true, and_self, and_true, and_false, false_and, ld_ent2_t, ld_ent2_k, ld_ent2_d, neq_nil1, neq_nil2, eql_nil2, nili_eq, ld_base0, ld_base1_i, ld_base1_t, ld_base1_m, new_zlog, extA_2, ld_lg1, ld_lg2]
  rw [callK_ok (by simp) (rHas_ok g prev hsm)]
  have hst1 : ∀ (o1 : AObj) (K : List AObj → List Nat → Option R3), stoK 4 (.ptr 1 1 0 0) (.agg [(.int .i64 0), (.int .i64 0), .nils, .nils]) [o1, .row 4 [zlog]] K = K [o1, .row 4 [zlog]] [] := fun o1 K => sto_zlog rfl
  by_cases hh : hasL g prev = true
  · have hb := hasL_iff.1 hh
    have w1 : IntKind.i64.wrap (prev - g.index) = (((prev - g.index).toNat : Nat) : Int) := w64 (by omega) (by omega)
    simp only [hh, List.length_nil, new_lg, new_ent, List.nil_append, List.length_singleton, List.singleton_append, List.cons_append, List.length_cons, Nat.reduceAdd, offA_ptr, offA_ip, Option.bind_some, Nat.zero_add, Nat.add_zero, ld_lg0_i, ld_lg0_t, ld_lg0_m, ld_lg0_e, ld_lg0, ld_ent0_t, ld_ent0_k, ld_ent0_d, ld_ent1_t, ld_ent1_k, ld_ent1_d, ld_ent0, ld_ent1, lenV_ents, lenV_ints, lenV_bys, lss_int, leq_int, gtr_int, geq_int, eql_int, neq_int, add_int, sub_int, splitK_dec, condK_dec, splitK_t, splitK_f, condK_t, condK_f, not_bool, List.drop_succ_cons, List.drop_zero, loadA_ipc, loadA_ent, extA_0, extA_1, Bool.not_true, Bool.not_false, Bool.false_eq_true, if_false, if_true, and_self, and_true, and_false, false_and, ld_ent2_t, ld_ent2_k, ld_ent2_d, neq_nil1, neq_nil2, eql_nil2, nili_eq, ld_base0, ld_base1_i, ld_base1_t, ld_base1_m, new_zlog, extA_2, ld_lg1, ld_lg2, w1]
    exact rmerge_loop g hg hge hs e he hd (prev - g.index).toNat (by omega) e.length 0 [] (by omega) (by omega) (by simp)
  · simp only [Bool.not_eq_true] at hh
    simp only [hh, List.length_nil, new_lg, new_ent, List.nil_append, List.length_singleton, List.singleton_append, List.cons_append, List.length_cons, Nat.reduceAdd, offA_ptr, offA_ip, Option.bind_some, Nat.zero_add, Nat.add_zero, ld_lg0_i, ld_lg0_t, ld_lg0_m, ld_lg0_e, ld_lg0, ld_ent0_t, ld_ent0_k, ld_ent0_d, ld_ent1_t, ld_ent1_k, ld_ent1_d, ld_ent0, ld_ent1, lenV_ents, lenV_ints, lenV_bys, lss_int, leq_int, gtr_int, geq_int, eql_int, neq_int, add_int, sub_int, splitK_dec, condK_dec, splitK_t, splitK_f, condK_t, condK_f, not_bool, List.drop_succ_cons, List.drop_zero, loadA_ipc, loadA_ent, extA_0, extA_1, Bool.not_true, Bool.not_false, Bool.false_eq_true, if_false, if_true, and_self, and_true, and_false, false_and, ld_ent2_t, ld_ent2_k, ld_ent2_d, neq_nil1, neq_nil2, eql_nil2, nili_eq, ld_base0, ld_base1_i, ld_base1_t, ld_base1_m, new_zlog, extA_2, ld_lg1, ld_lg2, fill0, hst1, ld_z1]
    exact (endB_frz (u := .tup [noLog.av, .int .i64 0, .int .i64 9]) (frz_tup (frzL_cons (frz_zlog _) rfl)) (by simp)).trans rfl
/-! ### LogMerges -/
def entLg (e : List Ent) : Lg := ⟨0, 0, [], e⟩
theorem fill7 (e : List Ent) : fillB (AV.cells (.agg [(.int .i64 0), (.int .i64 0), .nils, .nils])) [(3, 1, ents e)] = some [.int .i64 0, .int .i64 0, .nils, ents e] := rfl
theorem entLg_frz (e : List Ent) (H : List AObj) : frzL H [.agg [.int .i64 0, .int .i64 0, .nils, ents e]] = some [(entLg e).av] := rfl
theorem entLg_kills (e : List Ent) : killsL [.agg [.int .i64 0, .int .i64 0, .nils, ents e]] = [] := rfl
theorem mergeK_code (g : Lg) (p : Nat) (e : List Ent) (i : Nat) : (mergeK g p e i).2.2 = 0 ∨ (mergeK g p e i).2.2 = 3 := by
  unfold mergeK; split
  · exact .inl rfl
  · split
    · exact .inl rfl
    · exact .inr rfl
theorem mergeK_ok {g : Lg} (hg : LgOk g) {e : List Ent} (he : e.length < 2^39) (hge : g.es.length < 2^39) (hd : lightP e) (p i : Nat) : LgOk (mergeK g p e i).1 := by
  unfold mergeK; split
  · exact hg
  · split
    · exact join_ok hg he hge hd p i
    · exact ⟨by decide, by decide, fun e he => by simp [noLog] at he⟩
theorem errCode (c : Int) (h : c = 0 ∨ (1 ≤ c ∧ c ≤ 13)) : EV C n_law00_Code [errA c] [] = some (.int .i64 c, [], []) := by
  unfold errA
  split
  · rename_i h0; rw [h0]; exact Code_nil
  · exact Code_ok c (by omega) (by omega)
theorem good_err (c : Int) : (errA c).good = true := by unfold errA; split <;> rfl
theorem logMerges_ok (g : Lg) (prev : Int) (e : List Ent) : EV C n_law18_LogMerges [g.av, .int .i64 prev, ents e] [] = some (.bool true, [], []) := by
  refine law18_LogMerges_of ?_
  simp only [List.length_nil, new_lg, new_ent, List.nil_append, List.length_singleton, List.singleton_append, List.cons_append, List.length_cons, Nat.reduceAdd, offA_ptr, offA_ip, Option.bind_some, Nat.zero_add, Nat.add_zero, ld_lg0_i, ld_lg0_t, ld_lg0_m, ld_lg0_e, ld_lg0, ld_ent0_t, ld_ent0_k, ld_ent0_d, ld_ent1_t, ld_ent1_k, ld_ent1_d, ld_ent0, ld_ent1, lenV_ents, lenV_ints, lenV_bys, lss_int, leq_int, gtr_int, geq_int, eql_int, neq_int, add_int, sub_int, splitK_dec, condK_dec, splitK_t, splitK_f, condK_t, condK_f, not_bool, List.drop_succ_cons, List.drop_zero, loadA_ipc, loadA_ent, extA_0, extA_1, Bool.not_true, Bool.not_false, Bool.false_eq_true, if_false, if_true, and_self, and_true, and_false, false_and, ld_ent2_t, ld_ent2_k, ld_ent2_d, neq_nil1, neq_nil2, eql_nil2, nili_eq, ld_base0, ld_base1_i, ld_base1_t, ld_base1_m, new_zlog, extA_2, ld_lg1, ld_lg2]
  rw [callK_ok rfl up_ok]
  simp only [List.length_nil, new_lg, new_ent, List.nil_append, List.length_singleton, List.singleton_append, List.cons_append, List.length_cons, Nat.reduceAdd, offA_ptr, offA_ip, Option.bind_some, Nat.zero_add, Nat.add_zero, ld_lg0_i, ld_lg0_t, ld_lg0_m, ld_lg0_e, ld_lg0, ld_ent0_t, ld_ent0_k, ld_ent0_d, ld_ent1_t, ld_ent1_k, ld_ent1_d, ld_ent0, ld_ent1, lenV_ents, lenV_ints, lenV_bys, lss_int, leq_int, gtr_int, geq_int, eql_int, neq_int, add_int, sub_int, splitK_dec, condK_dec, splitK_t, splitK_f, condK_t, condK_f, not_bool, List.drop_succ_cons, List.drop_zero, loadA_ipc, loadA_ent, extA_0, extA_1, Bool.not_true, Bool.not_false, Bool.false_eq_true, if_false, if_true, and_self, and_true, and_false, false_and, ld_ent2_t, ld_ent2_k, ld_ent2_d, neq_nil1, neq_nil2, eql_nil2, nili_eq, ld_base0, ld_base1_i, ld_base1_t, ld_base1_m, new_zlog, extA_2, ld_lg1, ld_lg2]
  rw [callK_ok (by simp) (Light_ok g)]
  simp only [List.length_nil, new_lg, new_ent, List.nil_append, List.length_singleton, List.singleton_append, List.cons_append, List.length_cons, Nat.reduceAdd, offA_ptr, offA_ip, Option.bind_some, Nat.zero_add, Nat.add_zero, ld_lg0_i, ld_lg0_t, ld_lg0_m, ld_lg0_e, ld_lg0, ld_ent0_t, ld_ent0_k, ld_ent0_d, ld_ent1_t, ld_ent1_k, ld_ent1_d, ld_ent0, ld_ent1, lenV_ents, lenV_ints, lenV_bys, lss_int, leq_int, gtr_int, geq_int, eql_int, neq_int, add_int, sub_int, splitK_dec, condK_dec, splitK_t, splitK_f, condK_t, condK_f, not_bool, List.drop_succ_cons, List.drop_zero, loadA_ipc, loadA_ent, extA_0, extA_1, Bool.not_true, Bool.not_false, Bool.false_eq_true, if_false, if_true, and_self, and_true, and_false, false_and, ld_ent2_t, ld_ent2_k, ld_ent2_d, neq_nil1, neq_nil2, eql_nil2, nili_eq, ld_base0, ld_base1_i, ld_base1_t, ld_base1_m, new_zlog, extA_2, ld_lg1, ld_lg2]
  by_cases hl : lightL g = true
  case neg =>
    simp only [Bool.not_eq_true] at hl
    simp only [hl, List.length_nil, new_lg, new_ent, List.nil_append, List.length_singleton, List.singleton_append, List.cons_append, List.length_cons, Nat.reduceAdd, offA_ptr, offA_ip, Option.bind_some, Nat.zero_add, Nat.add_zero, ld_lg0_i, ld_lg0_t, ld_lg0_m, ld_lg0_e, ld_lg0, ld_ent0_t, ld_ent0_k, ld_ent0_d, ld_ent1_t, ld_ent1_k, ld_ent1_d, ld_ent0, ld_ent1, lenV_ents, lenV_ints, lenV_bys, lss_int, leq_int, gtr_int, geq_int, eql_int, neq_int, add_int, sub_int, splitK_dec, condK_dec, splitK_t, splitK_f, condK_t, condK_f, not_bool, List.drop_succ_cons, List.drop_zero, loadA_ipc, loadA_ent, extA_0, extA_1, Bool.not_true, Bool.not_false, Bool.false_eq_true, if_false, if_true, and_self, and_true, and_false, false_and, ld_ent2_t, ld_ent2_k, ld_ent2_d, neq_nil1, neq_nil2, eql_nil2, nili_eq, ld_base0, ld_base1_i, ld_base1_t, ld_base1_m, new_zlog, extA_2, ld_lg1, ld_lg2]
    exact endB_good rfl
  case pos =>
  obtain ⟨hg, hge⟩ := light_ok hl
  simp only [hl, List.length_nil, new_lg, new_ent, List.nil_append, List.length_singleton, List.singleton_append, List.cons_append, List.length_cons, Nat.reduceAdd, offA_ptr, offA_ip, Option.bind_some, Nat.zero_add, Nat.add_zero, ld_lg0_i, ld_lg0_t, ld_lg0_m, ld_lg0_e, ld_lg0, ld_ent0_t, ld_ent0_k, ld_ent0_d, ld_ent1_t, ld_ent1_k, ld_ent1_d, ld_ent0, ld_ent1, lenV_ents, lenV_ints, lenV_bys, lss_int, leq_int, gtr_int, geq_int, eql_int, neq_int, add_int, sub_int, splitK_dec, condK_dec, splitK_t, splitK_f, condK_t, condK_f, not_bool, List.drop_succ_cons, List.drop_zero, loadA_ipc, loadA_ent, extA_0, extA_1, Bool.not_true, Bool.not_false, Bool.false_eq_true, if_false, if_true, and_self, and_true, and_false, false_and, ld_ent2_t, ld_ent2_k, ld_ent2_d, neq_nil1, neq_nil2, eql_nil2, nili_eq, ld_base0, ld_base1_i, ld_base1_t, ld_base1_m, new_zlog, extA_2, ld_lg1, ld_lg2, fill7]
  rw [callK_nil (entLg_kills e) (entLg_frz e _) (by simp) (Light_ok (entLg e))]
  simp only [List.length_nil, new_lg, new_ent, List.nil_append, List.length_singleton, List.singleton_append, List.cons_append, List.length_cons, Nat.reduceAdd, offA_ptr, offA_ip, Option.bind_some, Nat.zero_add, Nat.add_zero, ld_lg0_i, ld_lg0_t, ld_lg0_m, ld_lg0_e, ld_lg0, ld_ent0_t, ld_ent0_k, ld_ent0_d, ld_ent1_t, ld_ent1_k, ld_ent1_d, ld_ent0, ld_ent1, lenV_ents, lenV_ints, lenV_bys, lss_int, leq_int, gtr_int, geq_int, eql_int, neq_int, add_int, sub_int, splitK_dec, condK_dec, splitK_t, splitK_f, condK_t, condK_f, not_bool, List.drop_succ_cons, List.drop_zero, loadA_ipc, loadA_ent, extA_0, extA_1, Bool.not_true, Bool.not_false, Bool.false_eq_true, if_false, if_true, and_self, and_true, and_false, false_and, ld_ent2_t, ld_ent2_k, ld_ent2_d, neq_nil1, neq_nil2, eql_nil2, nili_eq, ld_base0, ld_base1_i, ld_base1_t, ld_base1_m, new_zlog, extA_2, ld_lg1, ld_lg2]
  by_cases hl2 : lightL (entLg e) = true
  case neg =>
    simp only [Bool.not_eq_true] at hl2
    simp only [hl2, List.length_nil, new_lg, new_ent, List.nil_append, List.length_singleton, List.singleton_append, List.cons_append, List.length_cons, Nat.reduceAdd, offA_ptr, offA_ip, Option.bind_some, Nat.zero_add, Nat.add_zero, ld_lg0_i, ld_lg0_t, ld_lg0_m, ld_lg0_e, ld_lg0, ld_ent0_t, ld_ent0_k, ld_ent0_d, ld_ent1_t, ld_ent1_k, ld_ent1_d, ld_ent0, ld_ent1, lenV_ents, lenV_ints, lenV_bys, lss_int, leq_int, gtr_int, geq_int, eql_int, neq_int, add_int, sub_int, splitK_dec, condK_dec, splitK_t, splitK_f, condK_t, condK_f, not_bool, List.drop_succ_cons, List.drop_zero, loadA_ipc, loadA_ent, extA_0, extA_1, Bool.not_true, Bool.not_false, Bool.false_eq_true, if_false, if_true, and_self, and_true, and_false, false_and, ld_ent2_t, ld_ent2_k, ld_ent2_d, neq_nil1, neq_nil2, eql_nil2, nili_eq, ld_base0, ld_base1_i, ld_base1_t, ld_base1_m, new_zlog, extA_2, ld_lg1, ld_lg2]
    exact endB_good rfl
  case pos =>
  obtain ⟨hg2, he⟩ := light_ok hl2
  have hd : lightP e := hg2.d
  have he : e.length < 2^39 := he
  simp only [hl2, List.length_nil, new_lg, new_ent, List.nil_append, List.length_singleton, List.singleton_append, List.cons_append, List.length_cons, Nat.reduceAdd, offA_ptr, offA_ip, Option.bind_some, Nat.zero_add, Nat.add_zero, ld_lg0_i, ld_lg0_t, ld_lg0_m, ld_lg0_e, ld_lg0, ld_ent0_t, ld_ent0_k, ld_ent0_d, ld_ent1_t, ld_ent1_k, ld_ent1_d, ld_ent0, ld_ent1, lenV_ents, lenV_ints, lenV_bys, lss_int, leq_int, gtr_int, geq_int, eql_int, neq_int, add_int, sub_int, splitK_dec, condK_dec, splitK_t, splitK_f, condK_t, condK_f, not_bool, List.drop_succ_cons, List.drop_zero, loadA_ipc, loadA_ent, extA_0, extA_1, Bool.not_true, Bool.not_false, Bool.false_eq_true, if_false, if_true, and_self, and_true, and_false, false_and, ld_ent2_t, ld_ent2_k, ld_ent2_d, neq_nil1, neq_nil2, eql_nil2, nili_eq, ld_base0, ld_base1_i, ld_base1_t, ld_base1_m, new_zlog, extA_2, ld_lg1, ld_lg2]
  rw [callK_ok (by simp) (Merge_ok g hg hge prev e he hd)]
  have hst : ∀ (k : Lg) (o : AObj) (K : List AObj → List Nat → Option R3), stoK 4 (.ptr 1 1 0 0) k.av [o, .row 4 [zlog]] K = K [o, .row 4 [k.av]] [] := fun k o K => sto_lg k rfl
  have hst2 : ∀ (k : Lg) (o o2 : AObj) (K : List AObj → List Nat → Option R3), stoK 4 (.ptr 2 1 0 0) k.av [o, o2, .row 4 [zlog]] K = K [o, o2, .row 4 [k.av]] [] := fun k o o2 K => sto_lg k rfl
  unfold mergeA
  by_cases hs : soundL g = true
  case neg =>
    simp only [Bool.not_eq_true] at hs
    simp only [hs, mAV, List.length_nil, new_lg, new_ent, List.nil_append, List.length_singleton, List.singleton_append, List.cons_append, List.length_cons, Nat.reduceAdd, offA_ptr, offA_ip, Option.bind_some, Nat.zero_add, Nat.add_zero, ld_lg0_i, ld_lg0_t, ld_lg0_m, ld_lg0_e, ld_lg0, ld_ent0_t, ld_ent0_k, ld_ent0_d, ld_ent1_t, ld_ent1_k, ld_ent1_d, ld_ent0, ld_ent1, lenV_ents, lenV_ints, lenV_bys, lss_int, leq_int, gtr_int, geq_int, eql_int, neq_int, add_int, sub_int, splitK_dec, condK_dec, splitK_t, splitK_f, condK_t, condK_f, not_bool, List.drop_succ_cons, List.drop_zero, loadA_ipc, loadA_ent, extA_0, extA_1, Bool.not_true, Bool.not_false, Bool.false_eq_true, if_false, if_true, and_self, and_true, and_false, false_and, ld_ent2_t, ld_ent2_k, ld_ent2_d, neq_nil1, neq_nil2, eql_nil2, nili_eq, ld_base0, ld_base1_i, ld_base1_t, ld_base1_m, new_zlog, extA_2, ld_lg1, ld_lg2, hst]
    rw [callK_ok (by simp) (rCheck_ok g hg.m (by have := hg.e; omega) hg.d)]
    have he3 : errA 3 = codeA 3 := rfl
    simp only [hs, he3, List.length_nil, new_lg, new_ent, List.nil_append, List.length_singleton, List.singleton_append, List.cons_append, List.length_cons, Nat.reduceAdd, offA_ptr, offA_ip, Option.bind_some, Nat.zero_add, Nat.add_zero, ld_lg0_i, ld_lg0_t, ld_lg0_m, ld_lg0_e, ld_lg0, ld_ent0_t, ld_ent0_k, ld_ent0_d, ld_ent1_t, ld_ent1_k, ld_ent1_d, ld_ent0, ld_ent1, lenV_ents, lenV_ints, lenV_bys, lss_int, leq_int, gtr_int, geq_int, eql_int, neq_int, add_int, sub_int, splitK_dec, condK_dec, splitK_t, splitK_f, condK_t, condK_f, not_bool, List.drop_succ_cons, List.drop_zero, loadA_ipc, loadA_ent, extA_0, extA_1, Bool.not_true, Bool.not_false, Bool.false_eq_true, if_false, if_true, and_self, and_true, and_false, false_and, ld_ent2_t, ld_ent2_k, ld_ent2_d, neq_nil1, neq_nil2, eql_nil2, nili_eq, ld_base0, ld_base1_i, ld_base1_t, ld_base1_m, new_zlog, extA_2, ld_lg1, ld_lg2, eql_code', decide_true, fill0]
    rw [callK_nil rfl (noLog_same _) (by simp) same_noLog]
    exact endB_good rfl
  case pos =>
  have key : ∀ (r : Lg × Int × Int), (r.2.2 = 0 ∨ (1 ≤ r.2.2 ∧ r.2.2 ≤ 13)) → LgOk r.1 → mergeL g prev e = r ∨ (hasL g prev = false) → (if hasL g prev = true then mAV (mergeL g prev e) else mAV (noLog, 0, 9)) = mAV r → (if hasL g prev = true then mAV' (mergeL g prev e) else mAV' (noLog, 0, 9)) = mAV' r → True := fun _ _ _ _ _ _ => trivial
  obtain ⟨r, hr1, hr2, hr3, hr4⟩ : ∃ r : Lg × Int × Int, (r.2.2 = 0 ∨ (1 ≤ r.2.2 ∧ r.2.2 ≤ 13)) ∧ LgOk r.1 ∧ (if hasL g prev = true then mAV (mergeL g prev e) else mAV (noLog, 0, 9)) = mAV r ∧ (if hasL g prev = true then mAV' (mergeL g prev e) else mAV' (noLog, 0, 9)) = mAV' r := by
    by_cases hh : hasL g prev = true
    · refine ⟨mergeL g prev e, ?_, mergeK_ok hg he hge hd _ _, by rw [if_pos hh], by rw [if_pos hh]⟩
      rcases mergeK_code g (prev - g.index).toNat e (mch (g.es.drop (prev - g.index).toNat) e) with h | h
      · exact .inl h
      · exact .inr ⟨by unfold mergeL; omega, by unfold mergeL; omega⟩
    · exact ⟨(noLog, 0, 9), .inr ⟨by decide, by decide⟩, ⟨by decide, by decide, fun e he => by simp [noLog] at he⟩, by rw [if_neg hh], by rw [if_neg hh]⟩
  simp only [hs, if_true]
  rw [hr3]
  simp only [mAV, List.length_nil, new_lg, new_ent, List.nil_append, List.length_singleton, List.singleton_append, List.cons_append, List.length_cons, Nat.reduceAdd, offA_ptr, offA_ip, Option.bind_some, Nat.zero_add, Nat.add_zero, ld_lg0_i, ld_lg0_t, ld_lg0_m, ld_lg0_e, ld_lg0, ld_ent0_t, ld_ent0_k, ld_ent0_d, ld_ent1_t, ld_ent1_k, ld_ent1_d, ld_ent0, ld_ent1, lenV_ents, lenV_ints, lenV_bys, lss_int, leq_int, gtr_int, geq_int, eql_int, neq_int, add_int, sub_int, splitK_dec, condK_dec, splitK_t, splitK_f, condK_t, condK_f, not_bool, List.drop_succ_cons, List.drop_zero, loadA_ipc, loadA_ent, extA_0, extA_1, Bool.not_true, Bool.not_false, Bool.false_eq_true, if_false, if_true, and_self, and_true, and_false, false_and, ld_ent2_t, ld_ent2_k, ld_ent2_d, neq_nil1, neq_nil2, eql_nil2, nili_eq, ld_base0, ld_base1_i, ld_base1_t, ld_base1_m, new_zlog, extA_2, ld_lg1, ld_lg2, hst]
  rw [callK_ok (by simp) (rCheck_ok g hg.m (by have := hg.e; omega) hg.d)]
  simp only [hs, List.length_nil, new_lg, new_ent, List.nil_append, List.length_singleton, List.singleton_append, List.cons_append, List.length_cons, Nat.reduceAdd, offA_ptr, offA_ip, Option.bind_some, Nat.zero_add, Nat.add_zero, ld_lg0_i, ld_lg0_t, ld_lg0_m, ld_lg0_e, ld_lg0, ld_ent0_t, ld_ent0_k, ld_ent0_d, ld_ent1_t, ld_ent1_k, ld_ent1_d, ld_ent0, ld_ent1, lenV_ents, lenV_ints, lenV_bys, lss_int, leq_int, gtr_int, geq_int, eql_int, neq_int, add_int, sub_int, splitK_dec, condK_dec, splitK_t, splitK_f, condK_t, condK_f, not_bool, List.drop_succ_cons, List.drop_zero, loadA_ipc, loadA_ent, extA_0, extA_1, Bool.not_true, Bool.not_false, Bool.false_eq_true, if_false, if_true, and_self, and_true, and_false, false_and, ld_ent2_t, ld_ent2_k, ld_ent2_d, neq_nil1, neq_nil2, eql_nil2, nili_eq, ld_base0, ld_base1_i, ld_base1_t, ld_base1_m, new_zlog, extA_2, ld_lg1, ld_lg2]
  rw [callK_ok (by simp) (rMerge_ok g hg hge hs prev e he hd), hr4]
  simp only [mAV', List.length_nil, new_lg, new_ent, List.nil_append, List.length_singleton, List.singleton_append, List.cons_append, List.length_cons, Nat.reduceAdd, offA_ptr, offA_ip, Option.bind_some, Nat.zero_add, Nat.add_zero, ld_lg0_i, ld_lg0_t, ld_lg0_m, ld_lg0_e, ld_lg0, ld_ent0_t, ld_ent0_k, ld_ent0_d, ld_ent1_t, ld_ent1_k, ld_ent1_d, ld_ent0, ld_ent1, lenV_ents, lenV_ints, lenV_bys, lss_int, leq_int, gtr_int, geq_int, eql_int, neq_int, add_int, sub_int, splitK_dec, condK_dec, splitK_t, splitK_f, condK_t, condK_f, not_bool, List.drop_succ_cons, List.drop_zero, loadA_ipc, loadA_ent, extA_0, extA_1, Bool.not_true, Bool.not_false, Bool.false_eq_true, if_false, if_true, and_self, and_true, and_false, false_and, ld_ent2_t, ld_ent2_k, ld_ent2_d, neq_nil1, neq_nil2, eql_nil2, nili_eq, ld_base0, ld_base1_i, ld_base1_t, ld_base1_m, new_zlog, extA_2, ld_lg1, ld_lg2, hst2]
  rw [callK_ok (by simp [good_err]) (errCode _ hr1)]
  simp only [List.length_nil, new_lg, new_ent, List.nil_append, List.length_singleton, List.singleton_append, List.cons_append, List.length_cons, Nat.reduceAdd, offA_ptr, offA_ip, Option.bind_some, Nat.zero_add, Nat.add_zero, ld_lg0_i, ld_lg0_t, ld_lg0_m, ld_lg0_e, ld_lg0, ld_ent0_t, ld_ent0_k, ld_ent0_d, ld_ent1_t, ld_ent1_k, ld_ent1_d, ld_ent0, ld_ent1, lenV_ents, lenV_ints, lenV_bys, lss_int, leq_int, gtr_int, geq_int, eql_int, neq_int, add_int, sub_int, splitK_dec, condK_dec, splitK_t, splitK_f, condK_t, condK_f, not_bool, List.drop_succ_cons, List.drop_zero, loadA_ipc, loadA_ent, extA_0, extA_1, Bool.not_true, Bool.not_false, Bool.false_eq_true, if_false, if_true, and_self, and_true, and_false, false_and, ld_ent2_t, ld_ent2_k, ld_ent2_d, neq_nil1, neq_nil2, eql_nil2, nili_eq, ld_base0, ld_base1_i, ld_base1_t, ld_base1_m, new_zlog, extA_2, ld_lg1, ld_lg2, decide_true]
  rw [callK_ok (by simp) (Same_ok r.1 hr2.m (by have := hr2.e; omega))]
  exact endB_good rfl
end Go.Pm

