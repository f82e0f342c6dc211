/- A part of the proof: what the functions of the program answer, as plain lists and numbers. -/
import Derived.Test.YtndkpoacbheemaaP7
import Derived.Test.YtndkpoacbheemaaP25
namespace Go.Pm
open Go.Proofs
set_option linter.unusedVariables false
set_option linter.unusedSimpArgs false
theorem SGd.setNext {s : Stp} (h : SGd s) (i : Nat) (x : Int) (h0 : 0 ≤ x) (h1 : x ≤ most) : SGd { s with n := { s.n with next := s.n.next.set i x } } := by
  refine ⟨⟨⟨⟨by simp [h.w.n.ln], h.w.n.lm⟩, h.w.vn, h.w.en, h.w.out⟩, h.lg, h.sl⟩, h.id0, h.id1, fun j hj => ?_, h.mt, h.c0, h.c1⟩
  show 0 ≤ (s.n.next.set i x).getD j 0 ∧ (s.n.next.set i x).getD j 0 ≤ most
  by_cases hi : i < s.n.next.length
  · rw [getD_set hi]
    split
    · exact ⟨h0, h1⟩
    · exact h.nx j hj
  · rw [List.set_eq_of_length_le (by omega)]; exact h.nx j hj
theorem SGd.setMtch {s : Stp} (h : SGd s) (i : Nat) (x : Int) (h0 : 0 ≤ x) (h1 : x ≤ most) : SGd { s with n := { s.n with mtch := s.n.mtch.set i x } } := by
  refine ⟨⟨⟨⟨h.w.n.ln, by simp [h.w.n.lm]⟩, h.w.vn, h.w.en, h.w.out⟩, h.lg, h.sl⟩, h.id0, h.id1, h.nx, fun j hj => ?_, h.c0, h.c1⟩
  show 0 ≤ (s.n.mtch.set i x).getD j 0 ∧ (s.n.mtch.set i x).getD j 0 ≤ most
  by_cases hi : i < s.n.mtch.length
  · rw [getD_set hi]
    split
    · exact ⟨h0, h1⟩
    · exact h.mt j hj
  · rw [List.set_eq_of_length_le (by omega)]; exact h.mt j hj
theorem drawK_True {β : Type} (x : Option β) : drawK True x = x := drawK_t trivial x
def backN (n : Nde) (m : Msg) : Int :=
  let b := n.next.getD m.frm.toNat 0 - 1
  let c := if b < m.index + 1 then b else m.index + 1
  let d := n.mtch.getD m.frm.toNat 0 + 1
  let e := if d > c then d else c
  if most < e then most else e
def backF (s : Stp) (m : Msg) : Stp := { s with n := { s.n with next := s.n.next.set m.frm.toNat (backN s.n m) } }
def gotF (s : Stp) (m : Msg) : Stp := { s with n := { s.n with mtch := s.n.mtch.set m.frm.toNat (if m.index > s.n.mtch.getD m.frm.toNat 0 then m.index else s.n.mtch.getD m.frm.toNat 0) } }
def fwdF (s : Stp) (m : Msg) : Stp := { s with n := { s.n with next := s.n.next.set m.frm.toNat (if most < s.n.mtch.getD m.frm.toNat 0 + 1 then most else s.n.mtch.getD m.frm.toNat 0 + 1) } }
def ackF (s : Stp) (m : Msg) : Stp :=
  if m.ok = true then
    (if lastS s < m.index then s
    else
      let c := countsF (fwdF (gotF s m) m)
      if c.n.role = 2 then (if c.n.next.getD m.frm.toNat 0 ≤ lastS c then sendF c m.frm (bringM c.n m.frm) else c) else c)
  else sendF (backF s m) m.frm (bringM (backF s m).n m.frm)
theorem bringK {s : Stp} (h : SGd s) (to : Int) (h0 : 0 ≤ to) (h8 : to < 8) (ho : s.out.length < 1000000) {β : Type} {P R : List AObj} {K : AV → List AObj → List Nat → Option β} : callK (EV C) false n_raft_stepper_bring [.ptr (P.length + 1) 1 0 0, .int .i64 to] (hp P s R) K = K (.tup []) (hp P (sendF s to (bringM s.n to)) R) [] := (bring_m h to h0 h8 ho).call0 rfl
theorem backN_bounds {s : Stp} (h : SGd s) (m : Msg) (h0 : 0 ≤ m.frm) (h8 : m.frm < 8) : 0 ≤ backN s.n m ∧ backN s.n m ≤ most := by
  have hmo : most = 1152921504606846976 := rfl
  have n1 := h.nx m.frm.toNat (by omega)
  have n2 := h.mt m.frm.toNat (by omega)
  unfold backN
  dsimp only
  split <;> split <;> split <;> omega
theorem backF_gd {s : Stp} (h : SGd s) (m : Msg) (h0 : 0 ≤ m.frm) (h8 : m.frm < 8) : SGd (backF s m) := h.setNext _ _ (backN_bounds h m h0 h8).1 (backN_bounds h m h0 h8).2
theorem gotF_gd {s : Stp} (h : SGd s) (m : Msg) (h8 : m.frm.toNat < 8) (hi0 : 0 ≤ m.index) (hi1 : m.index ≤ most) : SGd (gotF s m) := by
  have n2 := h.mt m.frm.toNat h8
  exact h.setMtch _ _ (by split <;> omega) (by split <;> omega)
theorem fwdF_gd {s : Stp} (h : SGd s) (m : Msg) (h8 : m.frm.toNat < 8) : SGd (fwdF s m) := by
  have n2 := h.mt m.frm.toNat h8
  have hmo : most = 1152921504606846976 := rfl
  exact h.setNext _ _ (by split <;> omega) (by split <;> omega)
set_option maxHeartbeats 1000000 in
theorem ack_m {s : Stp} (h : SGd s) {m : Msg} (wm : m.wf) (h0 : 1 ≤ m.frm) (h7 : m.frm ≤ 7) (hi0 : 0 ≤ m.index) (hi1 : m.index ≤ most) (ho : s.out.length < 900000) : Meth n_raft_stepper_ack [m.av] s (.tup []) (ackF s m) := fun P R => by
  refine raft_stepper_ack_of ?_
  dsimp only
  have hmo : most = 1152921504606846976 := rfl
  have h8 : m.frm.toNat < 8 := by omega
  have n1 := h.nx m.frm.toNat h8
  have n2 := h.mt m.frm.toNat h8
  have ar : ∀ off, arA 8 1 (.ptr (P.length + 1) 1 0 off) (.int .i64 m.frm) = some (.ptr (P.length + 1) 1 0 (off + m.frm.toNat)) := fun off => arA_int (by omega) (by omega)
  rw [new_m wm]
  simp -implicitDefEqProofs only [nilA_ptr, offA_ptr, Option.bind_some, Nat.zero_add, Nat.add_zero, Nat.reduceAdd, hp_len, hp_app, List.append_nil, List.nil_append, ls_id, ls_term, ls_voted, ls_role, ls_leader, ls_index, ls_lterm, ls_mems, ls_es, ls_commit, ls_votes, ls_log, ls_base, ss_term, ss_voted, ss_role, ss_leader, ss_commit, ss_novotes, ss_votes, ss_es, eql_int, neq_int, lss_int, gtr_int, geq_int, leq_int, splitK_dec, condK_dec, splitK_t, splitK_f, condK_t, condK_f, extA_0, extA_1, extA_2, not_bool, Bool.not_true, Bool.not_false, neq_nn, neq_in, eql_nn, eql_in, List.append_assoc, List.cons_append, lm_kind, lm_frm, lm_to, lm_term, lm_index, lm_lterm, lm_commit, lm_ok, lm_es, lm_mems]
  unfold ackF
  cases hok : m.ok with
  | false =>
    rw [show (!false) = true from rfl, if_neg (by decide)]
    have e1 : IntKind.i64.wrap (m.index + 1) = m.index + 1 := wrap64 (by omega) (by omega)
    have e2 : IntKind.i64.wrap (s.n.next.getD m.frm.toNat 0 - 1) = s.n.next.getD m.frm.toNat 0 - 1 := wrap64 (by omega) (by omega)
    have e3 : IntKind.i64.wrap (s.n.mtch.getD m.frm.toNat 0 + 1) = s.n.mtch.getD m.frm.toNat 0 + 1 := wrap64 (by omega) (by omega)
    simp -implicitDefEqProofs only [nilA_ptr, offA_ptr, Option.bind_some, Nat.zero_add, Nat.add_zero, Nat.reduceAdd, hp_len, hp_app, List.append_nil, List.nil_append, ls_id, ls_term, ls_voted, ls_role, ls_leader, ls_index, ls_lterm, ls_mems, ls_es, ls_commit, ls_votes, ls_log, ls_base, ss_term, ss_voted, ss_role, ss_leader, ss_commit, ss_novotes, ss_votes, ss_es, eql_int, neq_int, lss_int, gtr_int, geq_int, leq_int, splitK_dec, condK_dec, splitK_t, splitK_f, condK_t, condK_f, extA_0, extA_1, extA_2, not_bool, Bool.not_true, Bool.not_false, neq_nn, neq_in, eql_nn, eql_in, List.append_assoc, List.cons_append, lm_kind, lm_frm, lm_to, lm_term, lm_index, lm_lterm, lm_commit, lm_ok, lm_es, lm_mems, add_int, sub_int, e1, ar, ls_next h.w.n h8, ls_mtch h.w.n h8, e2, e3, minA, maxA, ss_next h.w.n h8]
    have hg := backF_gd h m (by omega) (by omega)
    refine (bringK hg m.frm (by omega) (by omega) (show s.out.length < _ by omega)).trans ?_
    exact endB_n1 (v := .tup []) [mrow m] rfl
  | true =>
    rw [show (!true) = false from rfl, if_pos rfl]
    simp -implicitDefEqProofs only [nilA_ptr, offA_ptr, Option.bind_some, Nat.zero_add, Nat.add_zero, Nat.reduceAdd, hp_len, hp_app, List.append_nil, List.nil_append, ls_id, ls_term, ls_voted, ls_role, ls_leader, ls_index, ls_lterm, ls_mems, ls_es, ls_commit, ls_votes, ls_log, ls_base, ss_term, ss_voted, ss_role, ss_leader, ss_commit, ss_novotes, ss_votes, ss_es, eql_int, neq_int, lss_int, gtr_int, geq_int, leq_int, splitK_dec, condK_dec, splitK_t, splitK_f, condK_t, condK_f, extA_0, extA_1, extA_2, not_bool, Bool.not_true, Bool.not_false, neq_nn, neq_in, eql_nn, eql_in, List.append_assoc, List.cons_append, lm_kind, lm_frm, lm_to, lm_term, lm_index, lm_lterm, lm_commit, lm_ok, lm_es, lm_mems, lastK h.toSOk]
    simp -implicitDefEqProofs only [drawK_True]
    by_cases hl : lastS s < m.index
    · rw [if_pos hl, if_pos hl]
      exact endB_n1 [_] rfl
    · rw [if_neg hl, if_neg hl]
      have hg1 := gotF_gd h m h8 hi0 hi1
      have hg2 := fwdF_gd hg1 m h8
      simp -implicitDefEqProofs only [nilA_ptr, offA_ptr, Option.bind_some, Nat.zero_add, Nat.add_zero, Nat.reduceAdd, hp_len, hp_app, List.append_nil, List.nil_append, ls_id, ls_term, ls_voted, ls_role, ls_leader, ls_index, ls_lterm, ls_mems, ls_es, ls_commit, ls_votes, ls_log, ls_base, ss_term, ss_voted, ss_role, ss_leader, ss_commit, ss_novotes, ss_votes, ss_es, eql_int, neq_int, lss_int, gtr_int, geq_int, leq_int, splitK_dec, condK_dec, splitK_t, splitK_f, condK_t, condK_f, extA_0, extA_1, extA_2, not_bool, Bool.not_true, Bool.not_false, neq_nn, neq_in, eql_nn, eql_in, List.append_assoc, List.cons_append, lm_kind, lm_frm, lm_to, lm_term, lm_index, lm_lterm, lm_commit, lm_ok, lm_es, lm_mems, ar, ls_mtch h.w.n h8, maxA, ss_mtch h.w.n h8]
      obtain ⟨g, hgg⟩ : ∃ g, g = gotF s m := ⟨_, rfl⟩
      rw [show ({ s with n := { s.n with mtch := s.n.mtch.set m.frm.toNat (if m.index > s.n.mtch.getD m.frm.toNat 0 then m.index else s.n.mtch.getD m.frm.toNat 0) } } : Stp) = g from hgg.symm]
      have hgo : g.out = s.out := by rw [hgg]; rfl
      rw [← hgg] at hg1 hg2 ⊢
      have n3 := hg1.mt m.frm.toNat h8
      have e4 : IntKind.i64.wrap (g.n.mtch.getD m.frm.toNat 0 + 1) = g.n.mtch.getD m.frm.toNat 0 + 1 := wrap64 (by omega) (by omega)
      simp -implicitDefEqProofs only [nilA_ptr, offA_ptr, Option.bind_some, Nat.zero_add, Nat.add_zero, Nat.reduceAdd, hp_len, hp_app, List.append_nil, List.nil_append, ls_id, ls_term, ls_voted, ls_role, ls_leader, ls_index, ls_lterm, ls_mems, ls_es, ls_commit, ls_votes, ls_log, ls_base, ss_term, ss_voted, ss_role, ss_leader, ss_commit, ss_novotes, ss_votes, ss_es, eql_int, neq_int, lss_int, gtr_int, geq_int, leq_int, splitK_dec, condK_dec, splitK_t, splitK_f, condK_t, condK_f, extA_0, extA_1, extA_2, not_bool, Bool.not_true, Bool.not_false, neq_nn, neq_in, eql_nn, eql_in, List.append_assoc, List.cons_append, lm_kind, lm_frm, lm_to, lm_term, lm_index, lm_lterm, lm_commit, lm_ok, lm_es, lm_mems, ar, ls_mtch hg1.w.n h8, add_int, e4, minA, ss_next hg1.w.n h8]
      rw [show ({ g with n := { g.n with next := g.n.next.set m.frm.toNat (if 1152921504606846976 < g.n.mtch.getD m.frm.toNat 0 + 1 then 1152921504606846976 else g.n.mtch.getD m.frm.toNat 0 + 1) } } : Stp) = fwdF g m from rfl, countsK hg2]
      have hc := countsF_gd hg2
      have hco := (countsF_out (fwdF g m)).1
      obtain ⟨c, hcc⟩ : ∃ c, c = countsF (fwdF g m) := ⟨_, rfl⟩
      rw [← hcc] at hc hco ⊢
      have hco2 : c.out.length < 1000000 := by rw [hco]; show g.out.length < _; rw [hgo]; omega
      simp -implicitDefEqProofs only [nilA_ptr, offA_ptr, Option.bind_some, Nat.zero_add, Nat.add_zero, Nat.reduceAdd, hp_len, hp_app, List.append_nil, List.nil_append, ls_id, ls_term, ls_voted, ls_role, ls_leader, ls_index, ls_lterm, ls_mems, ls_es, ls_commit, ls_votes, ls_log, ls_base, ss_term, ss_voted, ss_role, ss_leader, ss_commit, ss_novotes, ss_votes, ss_es, eql_int, neq_int, lss_int, gtr_int, geq_int, leq_int, splitK_dec, condK_dec, splitK_t, splitK_f, condK_t, condK_f, extA_0, extA_1, extA_2, not_bool, Bool.not_true, Bool.not_false, neq_nn, neq_in, eql_nn, eql_in, List.append_assoc, List.cons_append, lm_kind, lm_frm, lm_to, lm_term, lm_index, lm_lterm, lm_commit, lm_ok, lm_es, lm_mems, drawK_True]
      by_cases hr : c.n.role = 2
      · rw [if_pos hr, if_pos hr]
        simp -implicitDefEqProofs only [nilA_ptr, offA_ptr, Option.bind_some, Nat.zero_add, Nat.add_zero, Nat.reduceAdd, hp_len, hp_app, List.append_nil, List.nil_append, ls_id, ls_term, ls_voted, ls_role, ls_leader, ls_index, ls_lterm, ls_mems, ls_es, ls_commit, ls_votes, ls_log, ls_base, ss_term, ss_voted, ss_role, ss_leader, ss_commit, ss_novotes, ss_votes, ss_es, eql_int, neq_int, lss_int, gtr_int, geq_int, leq_int, splitK_dec, condK_dec, splitK_t, splitK_f, condK_t, condK_f, extA_0, extA_1, extA_2, not_bool, Bool.not_true, Bool.not_false, neq_nn, neq_in, eql_nn, eql_in, List.append_assoc, List.cons_append, lm_kind, lm_frm, lm_to, lm_term, lm_index, lm_lterm, lm_commit, lm_ok, lm_es, lm_mems, ar, ls_next hc.w.n h8, lastK hc.toSOk, drawK_True]
        by_cases hn : c.n.next.getD m.frm.toNat 0 ≤ lastS c
        · rw [if_pos hn, if_pos hn, bringK hc m.frm (by omega) (by omega) hco2]
          exact endB_n1 [_] rfl
        · rw [if_neg hn, if_neg hn]
          exact endB_n1 [_] rfl
      · rw [if_neg hr, if_neg hr]
        exact endB_n1 [_] rfl
theorem ackK {s : Stp} (h : SGd s) {m : Msg} (wm : m.wf) (h0 : 1 ≤ m.frm) (h7 : m.frm ≤ 7) (hi0 : 0 ≤ m.index) (hi1 : m.index ≤ most) (ho : s.out.length < 900000) {β : Type} {P R : List AObj} {K : AV → List AObj → List Nat → Option β} : callK (EV C) false n_raft_stepper_ack [.ptr (P.length + 1) 1 0 0, m.av] (hp P s R) K = K (.tup []) (hp P (ackF s m) R) [] := (ack_m h wm h0 h7 hi0 hi1 ho).call0 (by simp [goodL, Msg.avgood wm])
def newF (m : List Int) (s : Stp) (l : List Int) : Stp := l.foldl (fun s id => if hasF m id = true then s else { s with n := { s.n with mtch := s.n.mtch.set id.toNat 0, next := s.n.next.set id.toNat (lastS s + 1) } }) s
theorem newF_has {m : List Int} {s : Stp} {x : Int} {l : List Int} (h : hasF m x = true) : newF m s (x :: l) = newF m s l := by
  show newF m (if hasF m x = true then s else _) l = _
  rw [if_pos h]
theorem newF_not {m : List Int} {s : Stp} {x : Int} {l : List Int} (h : ¬ hasF m x = true) : newF m s (x :: l) = newF m { s with n := { s.n with mtch := s.n.mtch.set x.toNat 0, next := s.n.next.set x.toNat (lastS s + 1) } } l := by
  show newF m (if hasF m x = true then s else _) l = _
  rw [if_neg h]
def changeF (s : Stp) (l : List Int) : Stp :=
  if s.n.role = 2 then
    (if stepC (memsS s) l = true then
      (if hasF (memsS s) s.n.id = true then
        (if most ≤ lastS s then s
        else if termL s.n.log s.n.commit = s.n.term then
          (if pendF s = true then s
          else if mayL l = true then proposeF (newF (memsS s) s l) 2 (byL l) else s)
        else s)
      else s)
    else s)
  else s
theorem change_J7 (mm l : List Int) (hl : mayL l = true) (hmm : mm.length ≤ 2^60) (b : List UInt8) (hb : b = byL l) (P R : List AObj) : ∀ (k i : Nat) (s : Stp), i + k = l.length → SGd s → lastS s < most → EOk s.n 2 b → s.out.length < 800000 →
    raft_stepper_change_J7 (P.length + 2 + R.length) (.ptr (P.length + 1) 1 0 0) (.ptr (P.length + 1) 1 0 0) (ints mm) (bys b) (ints l) (.int .i64 (l.length : Int)) (.int .i64 (i : Int)) (hp P s R) [] = some (.tup [], hp P (proposeF (newF mm s (l.drop i)) 2 b) R, [])
  | 0, i, s, hi, h, hls, he, ho => by
    refine raft_stepper_change_J7_of ?_
    simp -implicitDefEqProofs only [nilA_ptr, offA_ptr, Option.bind_some, Nat.zero_add, Nat.add_zero, Nat.reduceAdd, hp_len, hp_app, List.append_nil, List.nil_append, ls_id, ls_term, ls_voted, ls_role, ls_leader, ls_index, ls_lterm, ls_mems, ls_es, ls_commit, ls_votes, ls_log, ls_base, ss_term, ss_voted, ss_role, ss_leader, ss_commit, ss_novotes, ss_votes, ss_es, eql_int, neq_int, lss_int, gtr_int, geq_int, leq_int, splitK_dec, condK_dec, splitK_t, splitK_f, condK_t, condK_f, extA_0, extA_1, extA_2, not_bool, Bool.not_true, Bool.not_false, neq_nn, neq_in, eql_nn, eql_in, List.append_assoc, List.cons_append]
    rw [if_neg (by omega), List.drop_eq_nil_of_le (by omega), (propose_m h 2 b he ho).call0 (by simp [goodL, AV.good])]
    exact endB_n0 rfl
  | k + 1, i, s, hi, h, hls, he, ho => by
    refine raft_stepper_change_J7_of ?_
    have hlt : i < l.length := by omega
    have hx := may_mem hl _ (List.getElem_mem hlt)
    have hlen := may_len hl
    have hmo : most = 1152921504606846976 := rfl
    have hla := h.last
    have e3 : IntKind.i64.wrap ((i : Int) + 1) = ((i + 1 : Nat) : Int) := w64 (by omega) (by omega)
    have e4 : IntKind.i64.wrap (lastS s + 1) = lastS s + 1 := wrap64 (by omega) (by omega)
    have x8 : l[i].toNat < 8 := by omega
    have ar : ∀ off, arA 8 1 (.ptr (P.length + 1) 1 0 off) (.int .i64 l[i]) = some (.ptr (P.length + 1) 1 0 (off + l[i].toNat)) := fun off => arA_int (by omega) (by omega)
    simp -implicitDefEqProofs only [nilA_ptr, offA_ptr, Option.bind_some, Nat.zero_add, Nat.add_zero, Nat.reduceAdd, hp_len, hp_app, List.append_nil, List.nil_append, ls_id, ls_term, ls_voted, ls_role, ls_leader, ls_index, ls_lterm, ls_mems, ls_es, ls_commit, ls_votes, ls_log, ls_base, ss_term, ss_voted, ss_role, ss_leader, ss_commit, ss_novotes, ss_votes, ss_es, eql_int, neq_int, lss_int, gtr_int, geq_int, leq_int, splitK_dec, condK_dec, splitK_t, splitK_f, condK_t, condK_f, extA_0, extA_1, extA_2, not_bool, Bool.not_true, Bool.not_false, neq_nn, neq_in, eql_nn, eql_in, List.append_assoc, List.cons_append]
    rw [if_pos (by omega), ix_ints hlt, Option.bind_some, ld_i, Option.bind_some, confHasK _ _ hmm, List.drop_eq_getElem_cons hlt]
    cases hh : hasF mm l[i] with
    | true =>
      simp -implicitDefEqProofs only [nilA_ptr, offA_ptr, Option.bind_some, Nat.zero_add, Nat.add_zero, Nat.reduceAdd, hp_len, hp_app, List.append_nil, List.nil_append, ls_id, ls_term, ls_voted, ls_role, ls_leader, ls_index, ls_lterm, ls_mems, ls_es, ls_commit, ls_votes, ls_log, ls_base, ss_term, ss_voted, ss_role, ss_leader, ss_commit, ss_novotes, ss_votes, ss_es, eql_int, neq_int, lss_int, gtr_int, geq_int, leq_int, splitK_dec, condK_dec, splitK_t, splitK_f, condK_t, condK_f, extA_0, extA_1, extA_2, not_bool, Bool.not_true, Bool.not_false, neq_nn, neq_in, eql_nn, eql_in, List.append_assoc, List.cons_append, add_int, e3]
      rw [newF_has hh]
      exact change_J7 mm l hl hmm b hb P R k (i + 1) s (by omega) h hls he ho
    | false =>
      have h1 := h.setMtch l[i].toNat 0 (Int.le_refl _) (by omega)
      have h2 := h1.setNext l[i].toNat (lastS s + 1) (by omega) (by omega)
      have w1 := h1.w.n
      simp -implicitDefEqProofs only [nilA_ptr, offA_ptr, Option.bind_some, Nat.zero_add, Nat.add_zero, Nat.reduceAdd, hp_len, hp_app, List.append_nil, List.nil_append, ls_id, ls_term, ls_voted, ls_role, ls_leader, ls_index, ls_lterm, ls_mems, ls_es, ls_commit, ls_votes, ls_log, ls_base, ss_term, ss_voted, ss_role, ss_leader, ss_commit, ss_novotes, ss_votes, ss_es, eql_int, neq_int, lss_int, gtr_int, geq_int, leq_int, splitK_dec, condK_dec, splitK_t, splitK_f, condK_t, condK_f, extA_0, extA_1, extA_2, not_bool, Bool.not_true, Bool.not_false, neq_nn, neq_in, eql_nn, eql_in, List.append_assoc, List.cons_append, lastK h.toSOk, add_int, e4, ar, ss_mtch h.w.n x8, ss_next w1 x8, e3]
      rw [newF_not (by rw [hh]; decide)]
      exact change_J7 mm l hl hmm b hb P R k (i + 1) _ (by omega) h2 hls he ho
theorem stepC_may {a b : List Int} (h : stepC a b = true) : mayL a = true ∧ mayL b = true := by
  unfold stepC at h
  split at h <;> (simp only [stepQ, Bool.and_eq_true] at h)
  · exact ⟨h.2.1, h.1⟩
  · exact ⟨h.1, h.2.1⟩
set_option maxHeartbeats 1000000 in
theorem change_m {s : Stp} (h : SFu s) (l : List Int) (hl : l.length < 2^60) (ho : s.out.length < 800000) : Meth n_raft_stepper_change [ints l] s (.tup []) (changeF s l) := fun P R => by
  refine raft_stepper_change_of ?_
  dsimp only
  have hmo : most = 1152921504606846976 := rfl
  have ml := h.ml
  have hhc : hasL s.n.log s.n.commit = true := hasL_iff.2 ⟨h.c0, h.c1⟩
  have stepK : ∀ (H : List AObj) (K : AV → List AObj → List Nat → Option R3), callK (EV C) false n_conf_Step [ints (memsS s), ints l] H K = K (.bool (stepC (memsS s) l)) H [] := fun H K => callK_ok (by simp [goodL]) (confStep_ok _ _ ml (by omega))
  simp -implicitDefEqProofs only [nilA_ptr, offA_ptr, Option.bind_some, Nat.zero_add, Nat.add_zero, Nat.reduceAdd, hp_len, hp_app, List.append_nil, List.nil_append, ls_id, ls_term, ls_voted, ls_role, ls_leader, ls_index, ls_lterm, ls_mems, ls_es, ls_commit, ls_votes, ls_log, ls_base, ss_term, ss_voted, ss_role, ss_leader, ss_commit, ss_novotes, ss_votes, ss_es, eql_int, neq_int, lss_int, gtr_int, geq_int, leq_int, splitK_dec, condK_dec, splitK_t, splitK_f, condK_t, condK_f, extA_0, extA_1, extA_2, not_bool, Bool.not_true, Bool.not_false, neq_nn, neq_in, eql_nn, eql_in, List.append_assoc, List.cons_append, membersK h.toSOk, TermD h.toSOk _ hhc]
  unfold changeF
  by_cases h2 : s.n.role = 2
  · rw [if_pos h2, show decide (s.n.role = 2) = true from decide_eq_true h2]
    simp -implicitDefEqProofs only [nilA_ptr, offA_ptr, Option.bind_some, Nat.zero_add, Nat.add_zero, Nat.reduceAdd, hp_len, hp_app, List.append_nil, List.nil_append, ls_id, ls_term, ls_voted, ls_role, ls_leader, ls_index, ls_lterm, ls_mems, ls_es, ls_commit, ls_votes, ls_log, ls_base, ss_term, ss_voted, ss_role, ss_leader, ss_commit, ss_novotes, ss_votes, ss_es, eql_int, neq_int, lss_int, gtr_int, geq_int, leq_int, splitK_dec, condK_dec, splitK_t, splitK_f, condK_t, condK_f, extA_0, extA_1, extA_2, not_bool, Bool.not_true, Bool.not_false, neq_nn, neq_in, eql_nn, eql_in, List.append_assoc, List.cons_append, stepK]
    cases hs : stepC (memsS s) l with
    | false =>
      simp -implicitDefEqProofs only [nilA_ptr, offA_ptr, Option.bind_some, Nat.zero_add, Nat.add_zero, Nat.reduceAdd, hp_len, hp_app, List.append_nil, List.nil_append, ls_id, ls_term, ls_voted, ls_role, ls_leader, ls_index, ls_lterm, ls_mems, ls_es, ls_commit, ls_votes, ls_log, ls_base, ss_term, ss_voted, ss_role, ss_leader, ss_commit, ss_novotes, ss_votes, ss_es, eql_int, neq_int, lss_int, gtr_int, geq_int, leq_int, splitK_dec, condK_dec, splitK_t, splitK_f, condK_t, condK_f, extA_0, extA_1, extA_2, not_bool, Bool.not_true, Bool.not_false, neq_nn, neq_in, eql_nn, eql_in, List.append_assoc, List.cons_append, Bool.false_eq_true, if_false]
      exact endB_n0 rfl
    | true =>
      have hml := (stepC_may hs).2
      simp -implicitDefEqProofs only [nilA_ptr, offA_ptr, Option.bind_some, Nat.zero_add, Nat.add_zero, Nat.reduceAdd, hp_len, hp_app, List.append_nil, List.nil_append, ls_id, ls_term, ls_voted, ls_role, ls_leader, ls_index, ls_lterm, ls_mems, ls_es, ls_commit, ls_votes, ls_log, ls_base, ss_term, ss_voted, ss_role, ss_leader, ss_commit, ss_novotes, ss_votes, ss_es, eql_int, neq_int, lss_int, gtr_int, geq_int, leq_int, splitK_dec, condK_dec, splitK_t, splitK_f, condK_t, condK_f, extA_0, extA_1, extA_2, not_bool, Bool.not_true, Bool.not_false, neq_nn, neq_in, eql_nn, eql_in, List.append_assoc, List.cons_append, if_true, confHasK _ _ ml]
      cases hh : hasF (memsS s) s.n.id with
      | false =>
        simp -implicitDefEqProofs only [nilA_ptr, offA_ptr, Option.bind_some, Nat.zero_add, Nat.add_zero, Nat.reduceAdd, hp_len, hp_app, List.append_nil, List.nil_append, ls_id, ls_term, ls_voted, ls_role, ls_leader, ls_index, ls_lterm, ls_mems, ls_es, ls_commit, ls_votes, ls_log, ls_base, ss_term, ss_voted, ss_role, ss_leader, ss_commit, ss_novotes, ss_votes, ss_es, eql_int, neq_int, lss_int, gtr_int, geq_int, leq_int, splitK_dec, condK_dec, splitK_t, splitK_f, condK_t, condK_f, extA_0, extA_1, extA_2, not_bool, Bool.not_true, Bool.not_false, neq_nn, neq_in, eql_nn, eql_in, List.append_assoc, List.cons_append, Bool.false_eq_true, if_false]
        exact endB_n0 rfl
      | true =>
        simp -implicitDefEqProofs only [nilA_ptr, offA_ptr, Option.bind_some, Nat.zero_add, Nat.add_zero, Nat.reduceAdd, hp_len, hp_app, List.append_nil, List.nil_append, ls_id, ls_term, ls_voted, ls_role, ls_leader, ls_index, ls_lterm, ls_mems, ls_es, ls_commit, ls_votes, ls_log, ls_base, ss_term, ss_voted, ss_role, ss_leader, ss_commit, ss_novotes, ss_votes, ss_es, eql_int, neq_int, lss_int, gtr_int, geq_int, leq_int, splitK_dec, condK_dec, splitK_t, splitK_f, condK_t, condK_f, extA_0, extA_1, extA_2, not_bool, Bool.not_true, Bool.not_false, neq_nn, neq_in, eql_nn, eql_in, List.append_assoc, List.cons_append, if_true, lastK h.toSOk]
        by_cases hls : most ≤ lastS s
        · rw [if_pos hls, show ∀ a b : Option R3, (if 1152921504606846976 ≤ lastS s then a else b) = a from fun a b => if_pos hls]
          exact endB_n0 rfl
        · rw [if_neg hls, show ∀ a b : Option R3, (if 1152921504606846976 ≤ lastS s then a else b) = b from fun a b => if_neg hls]
          by_cases ht : termL s.n.log s.n.commit = s.n.term
          · rw [if_pos ht, show decide (termL s.n.log s.n.commit = s.n.term) = true from decide_eq_true ht]
            simp -implicitDefEqProofs only [nilA_ptr, offA_ptr, Option.bind_some, Nat.zero_add, Nat.add_zero, Nat.reduceAdd, hp_len, hp_app, List.append_nil, List.nil_append, ls_id, ls_term, ls_voted, ls_role, ls_leader, ls_index, ls_lterm, ls_mems, ls_es, ls_commit, ls_votes, ls_log, ls_base, ss_term, ss_voted, ss_role, ss_leader, ss_commit, ss_novotes, ss_votes, ss_es, eql_int, neq_int, lss_int, gtr_int, geq_int, leq_int, splitK_dec, condK_dec, splitK_t, splitK_f, condK_t, condK_f, extA_0, extA_1, extA_2, not_bool, Bool.not_true, Bool.not_false, neq_nn, neq_in, eql_nn, eql_in, List.append_assoc, List.cons_append, pendingK h.toSGd]
            cases hp : pendF s with
            | true =>
              simp -implicitDefEqProofs only [nilA_ptr, offA_ptr, Option.bind_some, Nat.zero_add, Nat.add_zero, Nat.reduceAdd, hp_len, hp_app, List.append_nil, List.nil_append, ls_id, ls_term, ls_voted, ls_role, ls_leader, ls_index, ls_lterm, ls_mems, ls_es, ls_commit, ls_votes, ls_log, ls_base, ss_term, ss_voted, ss_role, ss_leader, ss_commit, ss_novotes, ss_votes, ss_es, eql_int, neq_int, lss_int, gtr_int, geq_int, leq_int, splitK_dec, condK_dec, splitK_t, splitK_f, condK_t, condK_f, extA_0, extA_1, extA_2, not_bool, Bool.not_true, Bool.not_false, neq_nn, neq_in, eql_nn, eql_in, List.append_assoc, List.cons_append, if_true]
              exact endB_n0 rfl
            | false =>
              have hby : EV C n_conf_Bytes [ints l] [] = some (.tup [bys (byL l), .nili], [], []) := by rw [confBytes_ok l hl, if_pos hml]
              simp -implicitDefEqProofs only [nilA_ptr, offA_ptr, Option.bind_some, Nat.zero_add, Nat.add_zero, Nat.reduceAdd, hp_len, hp_app, List.append_nil, List.nil_append, ls_id, ls_term, ls_voted, ls_role, ls_leader, ls_index, ls_lterm, ls_mems, ls_es, ls_commit, ls_votes, ls_log, ls_base, ss_term, ss_voted, ss_role, ss_leader, ss_commit, ss_novotes, ss_votes, ss_es, eql_int, neq_int, lss_int, gtr_int, geq_int, leq_int, splitK_dec, condK_dec, splitK_t, splitK_f, condK_t, condK_f, extA_0, extA_1, extA_2, not_bool, Bool.not_true, Bool.not_false, neq_nn, neq_in, eql_nn, eql_in, List.append_assoc, List.cons_append, Bool.false_eq_true, if_false, callK_ok (show goodL [ints l] = true from by simp [goodL]) hby, lenV_ints]
              rw [if_pos hml]
              have he : EOk s.n 2 (byL l) := by
                have ht0 := h.t0; have ht1 := h.t1; have hel := h.el
                have htr : 0 < s.n.term := by rcases h.tr with h | h <;> omega
                refine ⟨ht0, by omega, ht1, by decide, by decide, fun _ => ?_, ?_, by omega⟩
                · rw [ofB_byL (may_mem hml)]; exact hml
                · have := may_len hml; simp [byL]; omega
              have := change_J7 (memsS s) l hml ml (byL l) rfl P R l.length 0 s (by omega) h.toSGd (by omega) he ho
              rw [List.drop_zero] at this
              exact this
          · rw [if_neg ht, show decide (termL s.n.log s.n.commit = s.n.term) = false from decide_eq_false ht]
            simp -implicitDefEqProofs only [nilA_ptr, offA_ptr, Option.bind_some, Nat.zero_add, Nat.add_zero, Nat.reduceAdd, hp_len, hp_app, List.append_nil, List.nil_append, ls_id, ls_term, ls_voted, ls_role, ls_leader, ls_index, ls_lterm, ls_mems, ls_es, ls_commit, ls_votes, ls_log, ls_base, ss_term, ss_voted, ss_role, ss_leader, ss_commit, ss_novotes, ss_votes, ss_es, eql_int, neq_int, lss_int, gtr_int, geq_int, leq_int, splitK_dec, condK_dec, splitK_t, splitK_f, condK_t, condK_f, extA_0, extA_1, extA_2, not_bool, Bool.not_true, Bool.not_false, neq_nn, neq_in, eql_nn, eql_in, List.append_assoc, List.cons_append]
            exact endB_n0 rfl
  · rw [if_neg h2, show decide (s.n.role = 2) = false from decide_eq_false h2]
    simp -implicitDefEqProofs only [nilA_ptr, offA_ptr, Option.bind_some, Nat.zero_add, Nat.add_zero, Nat.reduceAdd, hp_len, hp_app, List.append_nil, List.nil_append, ls_id, ls_term, ls_voted, ls_role, ls_leader, ls_index, ls_lterm, ls_mems, ls_es, ls_commit, ls_votes, ls_log, ls_base, ss_term, ss_voted, ss_role, ss_leader, ss_commit, ss_novotes, ss_votes, ss_es, eql_int, neq_int, lss_int, gtr_int, geq_int, leq_int, splitK_dec, condK_dec, splitK_t, splitK_f, condK_t, condK_f, extA_0, extA_1, extA_2, not_bool, Bool.not_true, Bool.not_false, neq_nn, neq_in, eql_nn, eql_in, List.append_assoc, List.cons_append]
    exact endB_n0 rfl
theorem changeK {s : Stp} (h : SFu s) (l : List Int) (hl : l.length < 2^60) (ho : s.out.length < 800000) {β : Type} {P R : List AObj} {K : AV → List AObj → List Nat → Option β} : callK (EV C) false n_raft_stepper_change [.ptr (P.length + 1) 1 0 0, ints l] (hp P s R) K = K (.tup []) (hp P (changeF s l) R) [] := (change_m h l hl ho).call0 (by simp [goodL])
end Go.Pm
namespace Go.Pm
open Go.Proofs
set_option linter.unusedVariables false
set_option linter.unusedSimpArgs false
def validM (n : Nde) (m : Msg) : Bool := decide (m.to = n.id) && (!decide (m.frm = n.id) && (inF m.frm 1 7 && (inF m.term 1 1152921504606846976 && (inF m.index 0 1152921504606846976 && (inF m.lterm 0 1152921504606846976 && inF m.commit 0 1152921504606846976)))))
def newT (s : Stp) (m : Msg) : Stp := { s with n := { s.n with term := m.term, voted := 0, leader := 0, role := 0, votes := [] }, vn := true }
def wonF (s : Stp) : Stp := if mostF (memsS s) s.n.votes = true then leadsF s else s
def voteF (s : Stp) (m : Msg) : Stp := if hasF s.n.votes m.frm = true then s else { s with n := { s.n with votes := s.n.votes ++ [m.frm] }, vn := false }
def hearF (s : Stp) (m : Msg) : Stp :=
  if m.term < s.n.term then
    (if m.kind = 1 then sendF s m.frm (msg0 2)
    else if m.kind = 3 then sendF s m.frm { msg0 4 with index := lastS s }
    else if m.kind = 5 then sendF s m.frm { msg0 4 with index := lastS s }
    else s)
  else if m.kind = 1 then askF s m
  else if m.kind = 2 then (if s.n.role = 1 then (if m.ok = true then wonF (voteF s m) else s) else s)
  else if m.kind = 3 then appF' s m
  else if m.kind = 5 then snapF s m
  else if m.kind = 4 then (if s.n.role = 2 then (if hasF (memsS s) m.frm = true then ackF s m else s) else s)
  else s
def msgF (s : Stp) (m : Msg) : Stp := if validM s.n m = true then hearF (if s.n.term < m.term then newT s m else s) m else s
theorem mostD {s : Stp} (w : s.wf) (l : List Int) (hl : l.length ≤ 2^60) (hv : s.n.votes.length ≤ 2^60) {H : List AObj} : callD (EV C) n_conf_Most [ints l, s.vav] H = some (.bool (mostF l s.n.votes)) :=
  callD_nil (by simp only [killsL, kills_good _ (good_ints l), kills_vav, List.append_nil]) (by simp only [frzL, frz_good _ _ (good_ints l), frz_vav w, Option.bind_some, Option.map_some]) (by simp [goodL]) (most_ok l s.n.votes hl hv)
theorem containsD {s : Stp} (w : s.wf) (x : Int) (hv : s.n.votes.length ≤ 2^60) {H : List AObj} : callD (EV C) n_Contains_int [s.vav, .int .i64 x] H = some (.bool (hasF s.n.votes x)) :=
  callD_nil (by simp only [killsL, kills, kills_vav, List.append_nil]) (by simp only [frzL, frz_vav w, frz, Option.bind_some, Option.map_some]) (by simp [goodL, AV.good]) (contains_ok s.n.votes x hv)
theorem inD (a b c : Int) (H : List AObj) : callD (EV C) n_raft_in [.int .i64 a, .int .i64 b, .int .i64 c] H = some (.bool (inF a b c)) := callD_ok (by simp [goodL, AV.good]) (in_ok a b c)
theorem msg_S19 {s : Stp} (h : SGd s) (he : EOk s.n 0 []) (hv : s.n.votes.length ≤ 2^60) (ho : s.out.length < 800000) (P R X : List AObj) :
    raft_stepper_msg_S19 (P.length + 2 + R.length) (.ptr (P.length + 1) 1 0 0) (.ptr (P.length + 1) 1 0 0) (hp P s (R ++ X)) [] = some (.tup [], hp P (wonF s) R, []) := by
  refine raft_stepper_msg_S19_of ?_
  simp -implicitDefEqProofs only [nilA_ptr, offA_ptr, Option.bind_some, Nat.zero_add, Nat.add_zero, Nat.reduceAdd, hp_len, hp_app, List.append_nil, List.nil_append, ls_id, ls_term, ls_voted, ls_role, ls_leader, ls_index, ls_lterm, ls_mems, ls_es, ls_commit, ls_votes, ls_log, ls_base, ss_term, ss_voted, ss_role, ss_leader, ss_commit, ss_novotes, ss_votes, ss_es, eql_int, neq_int, lss_int, gtr_int, geq_int, leq_int, splitK_dec, condK_dec, splitK_t, splitK_f, condK_t, condK_f, extA_0, extA_1, extA_2, not_bool, Bool.not_true, Bool.not_false, neq_nn, neq_in, eql_nn, eql_in, List.append_assoc, List.cons_append, membersK h.toSOk, drawK_True, mostD h.w _ h.ml hv]
  unfold wonF
  cases hm : mostF (memsS s) s.n.votes with
  | true =>
    simp -implicitDefEqProofs only [nilA_ptr, offA_ptr, Option.bind_some, Nat.zero_add, Nat.add_zero, Nat.reduceAdd, hp_len, hp_app, List.append_nil, List.nil_append, ls_id, ls_term, ls_voted, ls_role, ls_leader, ls_index, ls_lterm, ls_mems, ls_es, ls_commit, ls_votes, ls_log, ls_base, ss_term, ss_voted, ss_role, ss_leader, ss_commit, ss_novotes, ss_votes, ss_es, eql_int, neq_int, lss_int, gtr_int, geq_int, leq_int, splitK_dec, condK_dec, splitK_t, splitK_f, condK_t, condK_f, extA_0, extA_1, extA_2, not_bool, Bool.not_true, Bool.not_false, neq_nn, neq_in, eql_nn, eql_in, List.append_assoc, List.cons_append, if_true, leadsK h he ho]
    exact endB_n1 X rfl
  | false =>
    simp -implicitDefEqProofs only [nilA_ptr, offA_ptr, Option.bind_some, Nat.zero_add, Nat.add_zero, Nat.reduceAdd, hp_len, hp_app, List.append_nil, List.nil_append, ls_id, ls_term, ls_voted, ls_role, ls_leader, ls_index, ls_lterm, ls_mems, ls_es, ls_commit, ls_votes, ls_log, ls_base, ss_term, ss_voted, ss_role, ss_leader, ss_commit, ss_novotes, ss_votes, ss_es, eql_int, neq_int, lss_int, gtr_int, geq_int, leq_int, splitK_dec, condK_dec, splitK_t, splitK_f, condK_t, condK_f, extA_0, extA_1, extA_2, not_bool, Bool.not_true, Bool.not_false, neq_nn, neq_in, eql_nn, eql_in, List.append_assoc, List.cons_append, Bool.false_eq_true, if_false]
    exact endB_n1 X rfl
set_option maxHeartbeats 2000000 in
theorem msg_S5 {s : Stp} (h : SFu s) {m : Msg} (wm : m.wf) (f0 : 1 ≤ m.frm) (f7 : m.frm ≤ 7) (mt : 1 ≤ m.term) (hmt : m.term ≤ s.n.term) (hi0 : 0 ≤ m.index) (hi1 : m.index ≤ most) (he : m.es.length < 2^39) (hd : lightP m.es) (hml : m.mems.length < 2^40) (ho : s.out.length < 700000) (P R : List AObj) :
    raft_stepper_msg_S5 (P.length + 2 + R.length) (.ptr (P.length + 1) 1 0 0) (.ptr (P.length + 2 + R.length) 1 0 0) (.ptr (P.length + 1) 1 0 0) (hp P s (R ++ [mrow m])) [] = some (.tup [], hp P (hearF s m) R, []) := by
  refine raft_stepper_msg_S5_of ?_
  unfold hearF
  have hvl := h.vl
  have ht0 := h.t0; have ht1 := h.t1; have hel := h.el
  simp -implicitDefEqProofs only [nilA_ptr, offA_ptr, Option.bind_some, Nat.zero_add, Nat.add_zero, Nat.reduceAdd, hp_len, hp_app, List.append_nil, List.nil_append, ls_id, ls_term, ls_voted, ls_role, ls_leader, ls_index, ls_lterm, ls_mems, ls_es, ls_commit, ls_votes, ls_log, ls_base, ss_term, ss_voted, ss_role, ss_leader, ss_commit, ss_novotes, ss_votes, ss_es, eql_int, neq_int, lss_int, gtr_int, geq_int, leq_int, splitK_dec, condK_dec, splitK_t, splitK_f, condK_t, condK_f, extA_0, extA_1, extA_2, not_bool, Bool.not_true, Bool.not_false, neq_nn, neq_in, eql_nn, eql_in, List.append_assoc, List.cons_append, lm_kind, lm_frm, lm_to, lm_term, lm_index, lm_lterm, lm_commit, lm_ok, lm_es, lm_mems]
  by_cases hold : m.term < s.n.term
  · rw [if_pos hold, if_pos hold]
    by_cases k1 : m.kind = 1
    · rw [if_pos k1, if_pos k1, fsend (m := msg0 2) h.w (tail0_wf rfl) (by omega) rfl (fun H => rfl) rfl]
      exact endB_n1 [_] rfl
    · rw [if_neg k1, if_neg k1]
      by_cases k3 : m.kind = 3
      · rw [if_pos k3, if_pos k3]
        simp -implicitDefEqProofs only [nilA_ptr, offA_ptr, Option.bind_some, Nat.zero_add, Nat.add_zero, Nat.reduceAdd, hp_len, hp_app, List.append_nil, List.nil_append, ls_id, ls_term, ls_voted, ls_role, ls_leader, ls_index, ls_lterm, ls_mems, ls_es, ls_commit, ls_votes, ls_log, ls_base, ss_term, ss_voted, ss_role, ss_leader, ss_commit, ss_novotes, ss_votes, ss_es, eql_int, neq_int, lss_int, gtr_int, geq_int, leq_int, splitK_dec, condK_dec, splitK_t, splitK_f, condK_t, condK_f, extA_0, extA_1, extA_2, not_bool, Bool.not_true, Bool.not_false, neq_nn, neq_in, eql_nn, eql_in, List.append_assoc, List.cons_append, lm_kind, lm_frm, lm_to, lm_term, lm_index, lm_lterm, lm_commit, lm_ok, lm_es, lm_mems, lastK h.toSOk, drawK_True]
        rw [fsend (m := { msg0 4 with index := lastS s }) h.w (tail0_wf rfl) (by omega) rfl (fun H => rfl) rfl]
        exact endB_n1 [_] rfl
      · rw [if_neg k3, if_neg k3]
        by_cases k5 : m.kind = 5
        · rw [if_pos k5, if_pos k5]
          simp -implicitDefEqProofs only [nilA_ptr, offA_ptr, Option.bind_some, Nat.zero_add, Nat.add_zero, Nat.reduceAdd, hp_len, hp_app, List.append_nil, List.nil_append, ls_id, ls_term, ls_voted, ls_role, ls_leader, ls_index, ls_lterm, ls_mems, ls_es, ls_commit, ls_votes, ls_log, ls_base, ss_term, ss_voted, ss_role, ss_leader, ss_commit, ss_novotes, ss_votes, ss_es, eql_int, neq_int, lss_int, gtr_int, geq_int, leq_int, splitK_dec, condK_dec, splitK_t, splitK_f, condK_t, condK_f, extA_0, extA_1, extA_2, not_bool, Bool.not_true, Bool.not_false, neq_nn, neq_in, eql_nn, eql_in, List.append_assoc, List.cons_append, lm_kind, lm_frm, lm_to, lm_term, lm_index, lm_lterm, lm_commit, lm_ok, lm_es, lm_mems, lastK h.toSOk, drawK_True]
          rw [fsend (m := { msg0 4 with index := lastS s }) h.w (tail0_wf rfl) (by omega) rfl (fun H => rfl) rfl]
          exact endB_n1 [_] rfl
        · rw [if_neg k5, if_neg k5]
          exact endB_n1 [_] rfl
  · rw [if_neg hold, if_neg hold]
    have hE : EOk s.n 0 [] := ⟨ht0, by omega, ht1, by decide, by decide, fun h => absurd h (by decide), by decide, by omega⟩
    by_cases k1 : m.kind = 1
    · rw [if_pos k1, if_pos k1]
      simp -implicitDefEqProofs only [lm_all wm, Option.bind_some]
      rw [askK h.toSGd wm (by omega)]
      exact endB_n1 [_] rfl
    · rw [if_neg k1, if_neg k1]
      by_cases k2 : m.kind = 2
      · rw [if_pos k2, if_pos k2]
        by_cases r1 : s.n.role = 1
        · rw [if_pos r1, if_pos r1]
          cases hok : m.ok with
          | false =>
            simp -implicitDefEqProofs only [nilA_ptr, offA_ptr, Option.bind_some, Nat.zero_add, Nat.add_zero, Nat.reduceAdd, hp_len, hp_app, List.append_nil, List.nil_append, ls_id, ls_term, ls_voted, ls_role, ls_leader, ls_index, ls_lterm, ls_mems, ls_es, ls_commit, ls_votes, ls_log, ls_base, ss_term, ss_voted, ss_role, ss_leader, ss_commit, ss_novotes, ss_votes, ss_es, eql_int, neq_int, lss_int, gtr_int, geq_int, leq_int, splitK_dec, condK_dec, splitK_t, splitK_f, condK_t, condK_f, extA_0, extA_1, extA_2, not_bool, Bool.not_true, Bool.not_false, neq_nn, neq_in, eql_nn, eql_in, List.append_assoc, List.cons_append, Bool.false_eq_true, if_false]
            exact endB_n1 [_] rfl
          | true =>
            simp -implicitDefEqProofs only [nilA_ptr, offA_ptr, Option.bind_some, Nat.zero_add, Nat.add_zero, Nat.reduceAdd, hp_len, hp_app, List.append_nil, List.nil_append, ls_id, ls_term, ls_voted, ls_role, ls_leader, ls_index, ls_lterm, ls_mems, ls_es, ls_commit, ls_votes, ls_log, ls_base, ss_term, ss_voted, ss_role, ss_leader, ss_commit, ss_novotes, ss_votes, ss_es, eql_int, neq_int, lss_int, gtr_int, geq_int, leq_int, splitK_dec, condK_dec, splitK_t, splitK_f, condK_t, condK_f, extA_0, extA_1, extA_2, not_bool, Bool.not_true, Bool.not_false, neq_nn, neq_in, eql_nn, eql_in, List.append_assoc, List.cons_append, lm_kind, lm_frm, lm_to, lm_term, lm_index, lm_lterm, lm_commit, lm_ok, lm_es, lm_mems, if_true, containsD h.w m.frm (show s.n.votes.length ≤ 2^60 by omega)]
            unfold voteF
            cases hh : hasF s.n.votes m.frm with
            | true =>
              simp -implicitDefEqProofs only [nilA_ptr, offA_ptr, Option.bind_some, Nat.zero_add, Nat.add_zero, Nat.reduceAdd, hp_len, hp_app, List.append_nil, List.nil_append, ls_id, ls_term, ls_voted, ls_role, ls_leader, ls_index, ls_lterm, ls_mems, ls_es, ls_commit, ls_votes, ls_log, ls_base, ss_term, ss_voted, ss_role, ss_leader, ss_commit, ss_novotes, ss_votes, ss_es, eql_int, neq_int, lss_int, gtr_int, geq_int, leq_int, splitK_dec, condK_dec, splitK_t, splitK_f, condK_t, condK_f, extA_0, extA_1, extA_2, not_bool, Bool.not_true, Bool.not_false, neq_nn, neq_in, eql_nn, eql_in, List.append_assoc, List.cons_append, if_true]
              exact msg_S19 h.toSGd hE (by omega) (by omega) P R [mrow m]
            | false =>
              simp -implicitDefEqProofs only [nilA_ptr, offA_ptr, Option.bind_some, Nat.zero_add, Nat.add_zero, Nat.reduceAdd, hp_len, hp_app, List.append_nil, List.nil_append, ls_id, ls_term, ls_voted, ls_role, ls_leader, ls_index, ls_lterm, ls_mems, ls_es, ls_commit, ls_votes, ls_log, ls_base, ss_term, ss_voted, ss_role, ss_leader, ss_commit, ss_novotes, ss_votes, ss_es, eql_int, neq_int, lss_int, gtr_int, geq_int, leq_int, splitK_dec, condK_dec, splitK_t, splitK_f, condK_t, condK_f, extA_0, extA_1, extA_2, not_bool, Bool.not_true, Bool.not_false, neq_nn, neq_in, eql_nn, eql_in, List.append_assoc, List.cons_append, Bool.false_eq_true, if_false]
              obtain ⟨a, X, h1, h2⟩ := clone_votes h.w (by omega) (hp P s (R ++ [mrow m]))
              rw [callK_raw h1]
              have hlit : ∀ (x : Int) (H : List AObj), litD 1 1 (.int .i64 0) [(0, .int .i64 x)] H = some (ints [x]) := fun x H => rfl
              have l1 : loadA false 1 (.ptr (P.length + 2 + R.length) 1 0 1) (hp P s (R ++ [mrow m]) ++ X) = some (.int .i64 m.frm) := by
                rw [hp_app, List.append_assoc, List.singleton_append]; exact lm_frm
              simp -implicitDefEqProofs only [l1, Option.bind_some, lm_frm, drawK_True, hlit]
              rw [show ints [m.frm] = .lst [i64 m.frm] from rfl, cl_app h2 rfl (goodL_i64 _) rfl rfl (by decide) (by decide) (by decide) (by simp; omega)]
              have e : AV.lst (s.n.votes.map i64 ++ [i64 m.frm]) = ints (s.n.votes ++ [m.frm]) := by simp [ints]
              rw [e]
              simp -implicitDefEqProofs only [nilA_ptr, offA_ptr, Option.bind_some, Nat.zero_add, Nat.add_zero, Nat.reduceAdd, hp_len, hp_app, List.append_nil, List.nil_append, ls_id, ls_term, ls_voted, ls_role, ls_leader, ls_index, ls_lterm, ls_mems, ls_es, ls_commit, ls_votes, ls_log, ls_base, ss_term, ss_voted, ss_role, ss_leader, ss_commit, ss_novotes, ss_votes, ss_es, eql_int, neq_int, lss_int, gtr_int, geq_int, leq_int, splitK_dec, condK_dec, splitK_t, splitK_f, condK_t, condK_f, extA_0, extA_1, extA_2, not_bool, Bool.not_true, Bool.not_false, neq_nn, neq_in, eql_nn, eql_in, List.append_assoc, List.cons_append]
              have hg : SGd { s with n := { s.n with votes := s.n.votes ++ [m.frm] }, vn := false } := ⟨⟨⟨⟨h.w.n.ln, h.w.n.lm⟩, (fun h => by cases h), h.w.en, h.w.out⟩, h.lg, h.sl⟩, h.id0, h.id1, h.nx, h.mt, h.c0, h.c1⟩
              exact msg_S19 hg hE (by simp; omega) (by show s.out.length < _; omega) P R [mrow m, .dead]
        · rw [if_neg r1, if_neg r1]
          exact endB_n1 [_] rfl
      · rw [if_neg k2, if_neg k2]
        by_cases k3 : m.kind = 3
        · rw [if_pos k3, if_pos k3]
          simp -implicitDefEqProofs only [lm_all wm, Option.bind_some]
          rw [appMK h.toSGd wm hi0 hi1 he (by omega) hd (by omega)]
          exact endB_n1 [_] rfl
        · rw [if_neg k3, if_neg k3]
          by_cases k5 : m.kind = 5
          · rw [if_pos k5, if_pos k5]
            simp -implicitDefEqProofs only [lm_all wm, Option.bind_some]
            rw [snapK h.toSGd wm hml (by omega)]
            exact endB_n1 [_] rfl
          · rw [if_neg k5, if_neg k5]
            by_cases k4 : m.kind = 4
            · rw [if_pos k4, if_pos k4]
              by_cases r2 : s.n.role = 2
              · rw [if_pos r2, if_pos r2]
                simp -implicitDefEqProofs only [nilA_ptr, offA_ptr, Option.bind_some, Nat.zero_add, Nat.add_zero, Nat.reduceAdd, hp_len, hp_app, List.append_nil, List.nil_append, ls_id, ls_term, ls_voted, ls_role, ls_leader, ls_index, ls_lterm, ls_mems, ls_es, ls_commit, ls_votes, ls_log, ls_base, ss_term, ss_voted, ss_role, ss_leader, ss_commit, ss_novotes, ss_votes, ss_es, eql_int, neq_int, lss_int, gtr_int, geq_int, leq_int, splitK_dec, condK_dec, splitK_t, splitK_f, condK_t, condK_f, extA_0, extA_1, extA_2, not_bool, Bool.not_true, Bool.not_false, neq_nn, neq_in, eql_nn, eql_in, List.append_assoc, List.cons_append, lm_kind, lm_frm, lm_to, lm_term, lm_index, lm_lterm, lm_commit, lm_ok, lm_es, lm_mems, membersK h.toSOk, drawK_True, callD_ok (show goodL [ints (memsS s), AV.int .i64 m.frm] = true from by simp [goodL, AV.good]) (confHas_ok _ _ h.ml)]
                cases hh : hasF (memsS s) m.frm with
                | true =>
                  simp -implicitDefEqProofs only [nilA_ptr, offA_ptr, Option.bind_some, Nat.zero_add, Nat.add_zero, Nat.reduceAdd, hp_len, hp_app, List.append_nil, List.nil_append, ls_id, ls_term, ls_voted, ls_role, ls_leader, ls_index, ls_lterm, ls_mems, ls_es, ls_commit, ls_votes, ls_log, ls_base, ss_term, ss_voted, ss_role, ss_leader, ss_commit, ss_novotes, ss_votes, ss_es, eql_int, neq_int, lss_int, gtr_int, geq_int, leq_int, splitK_dec, condK_dec, splitK_t, splitK_f, condK_t, condK_f, extA_0, extA_1, extA_2, not_bool, Bool.not_true, Bool.not_false, neq_nn, neq_in, eql_nn, eql_in, List.append_assoc, List.cons_append, if_true, lm_all wm]
                  rw [ackK h.toSGd wm f0 f7 hi0 hi1 (by omega)]
                  exact endB_n1 [_] rfl
                | false =>
                  simp -implicitDefEqProofs only [nilA_ptr, offA_ptr, Option.bind_some, Nat.zero_add, Nat.add_zero, Nat.reduceAdd, hp_len, hp_app, List.append_nil, List.nil_append, ls_id, ls_term, ls_voted, ls_role, ls_leader, ls_index, ls_lterm, ls_mems, ls_es, ls_commit, ls_votes, ls_log, ls_base, ss_term, ss_voted, ss_role, ss_leader, ss_commit, ss_novotes, ss_votes, ss_es, eql_int, neq_int, lss_int, gtr_int, geq_int, leq_int, splitK_dec, condK_dec, splitK_t, splitK_f, condK_t, condK_f, extA_0, extA_1, extA_2, not_bool, Bool.not_true, Bool.not_false, neq_nn, neq_in, eql_nn, eql_in, List.append_assoc, List.cons_append, Bool.false_eq_true, if_false]
                  exact endB_n1 [_] rfl
              · rw [if_neg r2, if_neg r2]
                exact endB_n1 [_] rfl
            · rw [if_neg k4, if_neg k4]
              exact endB_n1 [_] rfl
theorem inF_iff {a b c : Int} : inF a b c = true ↔ b ≤ a ∧ a ≤ c := by simp [inF]
theorem newT_fu {s : Stp} (h : SFu s) {m : Msg} (ht : s.n.term < m.term) (h1 : m.term ≤ most) : SFu (newT s m) :=
  { toSGd := ⟨⟨⟨⟨h.w.n.ln, h.w.n.lm⟩, (fun _ => rfl), h.w.en, h.w.out⟩, h.lg, h.sl⟩, h.id0, h.id1, h.nx, h.mt, h.c0, h.c1⟩
    t0 := by have := h.t0; show termL s.n.log (lastL s.n.log) ≤ m.term; omega
    t00 := by have := h.t00; show 0 ≤ m.term; omega
    t1 := h1
    k0 := h.k0
    k1 := h.k1
    vl := by show ([] : List Int).length < 2^39; simp
    el := h.el
    tr := .inr rfl }
set_option maxHeartbeats 2000000 in
theorem msg_m {s : Stp} (h : SFu s) {m : Msg} (wm : m.wf) (he : m.es.length < 2^39) (hd : lightP m.es) (hml : m.mems.length < 2^40) (ho : s.out.length < 700000) : Meth n_raft_stepper_msg [m.av] s (.tup []) (msgF s m) := fun P R => by
  refine raft_stepper_msg_of ?_
  dsimp only
  have hmo : most = 1152921504606846976 := rfl
  rw [new_m wm]
  unfold msgF validM
  simp -implicitDefEqProofs only [nilA_ptr, offA_ptr, Option.bind_some, Nat.zero_add, Nat.add_zero, Nat.reduceAdd, hp_len, hp_app, List.append_nil, List.nil_append, ls_id, ls_term, ls_voted, ls_role, ls_leader, ls_index, ls_lterm, ls_mems, ls_es, ls_commit, ls_votes, ls_log, ls_base, ss_term, ss_voted, ss_role, ss_leader, ss_commit, ss_novotes, ss_votes, ss_es, eql_int, neq_int, lss_int, gtr_int, geq_int, leq_int, splitK_dec, condK_dec, splitK_t, splitK_f, condK_t, condK_f, extA_0, extA_1, extA_2, not_bool, Bool.not_true, Bool.not_false, neq_nn, neq_in, eql_nn, eql_in, List.append_assoc, List.cons_append, lm_kind, lm_frm, lm_to, lm_term, lm_index, lm_lterm, lm_commit, lm_ok, lm_es, lm_mems, inD]
  by_cases h1 : m.to = s.n.id
  · rw [show decide (m.to = s.n.id) = true from decide_eq_true h1]
    simp -implicitDefEqProofs only [nilA_ptr, offA_ptr, Option.bind_some, Nat.zero_add, Nat.add_zero, Nat.reduceAdd, hp_len, hp_app, List.append_nil, List.nil_append, ls_id, ls_term, ls_voted, ls_role, ls_leader, ls_index, ls_lterm, ls_mems, ls_es, ls_commit, ls_votes, ls_log, ls_base, ss_term, ss_voted, ss_role, ss_leader, ss_commit, ss_novotes, ss_votes, ss_es, eql_int, neq_int, lss_int, gtr_int, geq_int, leq_int, splitK_dec, condK_dec, splitK_t, splitK_f, condK_t, condK_f, extA_0, extA_1, extA_2, not_bool, Bool.not_true, Bool.not_false, neq_nn, neq_in, eql_nn, eql_in, List.append_assoc, List.cons_append, Bool.true_and]
    by_cases h2 : m.frm = s.n.id
    · rw [if_pos h2, show decide (m.frm = s.n.id) = true from decide_eq_true h2]
      simp only [Bool.not_true, Bool.false_and, Bool.false_eq_true, if_false]
      exact endB_n1 [_] rfl
    · rw [if_neg h2, show decide (m.frm = s.n.id) = false from decide_eq_false h2]
      simp only [Bool.not_false, Bool.true_and]
      cases h3 : inF m.frm 1 7 with
      | false =>
        simp -implicitDefEqProofs only [nilA_ptr, offA_ptr, Option.bind_some, Nat.zero_add, Nat.add_zero, Nat.reduceAdd, hp_len, hp_app, List.append_nil, List.nil_append, ls_id, ls_term, ls_voted, ls_role, ls_leader, ls_index, ls_lterm, ls_mems, ls_es, ls_commit, ls_votes, ls_log, ls_base, ss_term, ss_voted, ss_role, ss_leader, ss_commit, ss_novotes, ss_votes, ss_es, eql_int, neq_int, lss_int, gtr_int, geq_int, leq_int, splitK_dec, condK_dec, splitK_t, splitK_f, condK_t, condK_f, extA_0, extA_1, extA_2, not_bool, Bool.not_true, Bool.not_false, neq_nn, neq_in, eql_nn, eql_in, List.append_assoc, List.cons_append, Bool.false_and, Bool.false_eq_true, if_false]
        exact endB_n1 [_] rfl
      | true =>
        simp -implicitDefEqProofs only [nilA_ptr, offA_ptr, Option.bind_some, Nat.zero_add, Nat.add_zero, Nat.reduceAdd, hp_len, hp_app, List.append_nil, List.nil_append, ls_id, ls_term, ls_voted, ls_role, ls_leader, ls_index, ls_lterm, ls_mems, ls_es, ls_commit, ls_votes, ls_log, ls_base, ss_term, ss_voted, ss_role, ss_leader, ss_commit, ss_novotes, ss_votes, ss_es, eql_int, neq_int, lss_int, gtr_int, geq_int, leq_int, splitK_dec, condK_dec, splitK_t, splitK_f, condK_t, condK_f, extA_0, extA_1, extA_2, not_bool, Bool.not_true, Bool.not_false, neq_nn, neq_in, eql_nn, eql_in, List.append_assoc, List.cons_append, Bool.true_and]
        cases h4 : inF m.term 1 1152921504606846976 with
        | false =>
          simp -implicitDefEqProofs only [nilA_ptr, offA_ptr, Option.bind_some, Nat.zero_add, Nat.add_zero, Nat.reduceAdd, hp_len, hp_app, List.append_nil, List.nil_append, ls_id, ls_term, ls_voted, ls_role, ls_leader, ls_index, ls_lterm, ls_mems, ls_es, ls_commit, ls_votes, ls_log, ls_base, ss_term, ss_voted, ss_role, ss_leader, ss_commit, ss_novotes, ss_votes, ss_es, eql_int, neq_int, lss_int, gtr_int, geq_int, leq_int, splitK_dec, condK_dec, splitK_t, splitK_f, condK_t, condK_f, extA_0, extA_1, extA_2, not_bool, Bool.not_true, Bool.not_false, neq_nn, neq_in, eql_nn, eql_in, List.append_assoc, List.cons_append, Bool.false_and, Bool.false_eq_true, if_false]
          exact endB_n1 [_] rfl
        | true =>
          simp -implicitDefEqProofs only [nilA_ptr, offA_ptr, Option.bind_some, Nat.zero_add, Nat.add_zero, Nat.reduceAdd, hp_len, hp_app, List.append_nil, List.nil_append, ls_id, ls_term, ls_voted, ls_role, ls_leader, ls_index, ls_lterm, ls_mems, ls_es, ls_commit, ls_votes, ls_log, ls_base, ss_term, ss_voted, ss_role, ss_leader, ss_commit, ss_novotes, ss_votes, ss_es, eql_int, neq_int, lss_int, gtr_int, geq_int, leq_int, splitK_dec, condK_dec, splitK_t, splitK_f, condK_t, condK_f, extA_0, extA_1, extA_2, not_bool, Bool.not_true, Bool.not_false, neq_nn, neq_in, eql_nn, eql_in, List.append_assoc, List.cons_append, Bool.true_and]
          cases h5 : inF m.index 0 1152921504606846976 with
          | false =>
            simp -implicitDefEqProofs only [nilA_ptr, offA_ptr, Option.bind_some, Nat.zero_add, Nat.add_zero, Nat.reduceAdd, hp_len, hp_app, List.append_nil, List.nil_append, ls_id, ls_term, ls_voted, ls_role, ls_leader, ls_index, ls_lterm, ls_mems, ls_es, ls_commit, ls_votes, ls_log, ls_base, ss_term, ss_voted, ss_role, ss_leader, ss_commit, ss_novotes, ss_votes, ss_es, eql_int, neq_int, lss_int, gtr_int, geq_int, leq_int, splitK_dec, condK_dec, splitK_t, splitK_f, condK_t, condK_f, extA_0, extA_1, extA_2, not_bool, Bool.not_true, Bool.not_false, neq_nn, neq_in, eql_nn, eql_in, List.append_assoc, List.cons_append, Bool.false_and, Bool.false_eq_true, if_false]
            exact endB_n1 [_] rfl
          | true =>
            simp -implicitDefEqProofs only [nilA_ptr, offA_ptr, Option.bind_some, Nat.zero_add, Nat.add_zero, Nat.reduceAdd, hp_len, hp_app, List.append_nil, List.nil_append, ls_id, ls_term, ls_voted, ls_role, ls_leader, ls_index, ls_lterm, ls_mems, ls_es, ls_commit, ls_votes, ls_log, ls_base, ss_term, ss_voted, ss_role, ss_leader, ss_commit, ss_novotes, ss_votes, ss_es, eql_int, neq_int, lss_int, gtr_int, geq_int, leq_int, splitK_dec, condK_dec, splitK_t, splitK_f, condK_t, condK_f, extA_0, extA_1, extA_2, not_bool, Bool.not_true, Bool.not_false, neq_nn, neq_in, eql_nn, eql_in, List.append_assoc, List.cons_append, Bool.true_and]
            cases h6 : inF m.lterm 0 1152921504606846976 with
            | false =>
              simp -implicitDefEqProofs only [nilA_ptr, offA_ptr, Option.bind_some, Nat.zero_add, Nat.add_zero, Nat.reduceAdd, hp_len, hp_app, List.append_nil, List.nil_append, ls_id, ls_term, ls_voted, ls_role, ls_leader, ls_index, ls_lterm, ls_mems, ls_es, ls_commit, ls_votes, ls_log, ls_base, ss_term, ss_voted, ss_role, ss_leader, ss_commit, ss_novotes, ss_votes, ss_es, eql_int, neq_int, lss_int, gtr_int, geq_int, leq_int, splitK_dec, condK_dec, splitK_t, splitK_f, condK_t, condK_f, extA_0, extA_1, extA_2, not_bool, Bool.not_true, Bool.not_false, neq_nn, neq_in, eql_nn, eql_in, List.append_assoc, List.cons_append, Bool.false_and, Bool.false_eq_true, if_false]
              exact endB_n1 [_] rfl
            | true =>
              simp -implicitDefEqProofs only [nilA_ptr, offA_ptr, Option.bind_some, Nat.zero_add, Nat.add_zero, Nat.reduceAdd, hp_len, hp_app, List.append_nil, List.nil_append, ls_id, ls_term, ls_voted, ls_role, ls_leader, ls_index, ls_lterm, ls_mems, ls_es, ls_commit, ls_votes, ls_log, ls_base, ss_term, ss_voted, ss_role, ss_leader, ss_commit, ss_novotes, ss_votes, ss_es, eql_int, neq_int, lss_int, gtr_int, geq_int, leq_int, splitK_dec, condK_dec, splitK_t, splitK_f, condK_t, condK_f, extA_0, extA_1, extA_2, not_bool, Bool.not_true, Bool.not_false, neq_nn, neq_in, eql_nn, eql_in, List.append_assoc, List.cons_append, Bool.true_and]
              cases h7 : inF m.commit 0 1152921504606846976 with
              | false =>
                simp -implicitDefEqProofs only [nilA_ptr, offA_ptr, Option.bind_some, Nat.zero_add, Nat.add_zero, Nat.reduceAdd, hp_len, hp_app, List.append_nil, List.nil_append, ls_id, ls_term, ls_voted, ls_role, ls_leader, ls_index, ls_lterm, ls_mems, ls_es, ls_commit, ls_votes, ls_log, ls_base, ss_term, ss_voted, ss_role, ss_leader, ss_commit, ss_novotes, ss_votes, ss_es, eql_int, neq_int, lss_int, gtr_int, geq_int, leq_int, splitK_dec, condK_dec, splitK_t, splitK_f, condK_t, condK_f, extA_0, extA_1, extA_2, not_bool, Bool.not_true, Bool.not_false, neq_nn, neq_in, eql_nn, eql_in, List.append_assoc, List.cons_append, Bool.false_eq_true, if_false]
                exact endB_n1 [_] rfl
              | true =>
                simp -implicitDefEqProofs only [nilA_ptr, offA_ptr, Option.bind_some, Nat.zero_add, Nat.add_zero, Nat.reduceAdd, hp_len, hp_app, List.append_nil, List.nil_append, ls_id, ls_term, ls_voted, ls_role, ls_leader, ls_index, ls_lterm, ls_mems, ls_es, ls_commit, ls_votes, ls_log, ls_base, ss_term, ss_voted, ss_role, ss_leader, ss_commit, ss_novotes, ss_votes, ss_es, eql_int, neq_int, lss_int, gtr_int, geq_int, leq_int, splitK_dec, condK_dec, splitK_t, splitK_f, condK_t, condK_f, extA_0, extA_1, extA_2, not_bool, Bool.not_true, Bool.not_false, neq_nn, neq_in, eql_nn, eql_in, List.append_assoc, List.cons_append, lm_kind, lm_frm, lm_to, lm_term, lm_index, lm_lterm, lm_commit, lm_ok, lm_es, lm_mems, if_true]
                have i3 := inF_iff.1 h3; have i4 := inF_iff.1 h4; have i5 := inF_iff.1 h5
                by_cases ht : s.n.term < m.term
                · rw [if_pos ht, if_pos ht]
                  exact msg_S5 (newT_fu h ht (by omega)) wm i3.1 i3.2 i4.1 (show m.term ≤ m.term from Int.le_refl _) i5.1 (by omega) he hd hml ho P R
                · rw [if_neg ht, if_neg ht]
                  exact msg_S5 h wm i3.1 i3.2 i4.1 (by omega) i5.1 (by omega) he hd hml ho P R
  · rw [show decide (m.to = s.n.id) = false from decide_eq_false h1]
    simp -implicitDefEqProofs only [nilA_ptr, offA_ptr, Option.bind_some, Nat.zero_add, Nat.add_zero, Nat.reduceAdd, hp_len, hp_app, List.append_nil, List.nil_append, ls_id, ls_term, ls_voted, ls_role, ls_leader, ls_index, ls_lterm, ls_mems, ls_es, ls_commit, ls_votes, ls_log, ls_base, ss_term, ss_voted, ss_role, ss_leader, ss_commit, ss_novotes, ss_votes, ss_es, eql_int, neq_int, lss_int, gtr_int, geq_int, leq_int, splitK_dec, condK_dec, splitK_t, splitK_f, condK_t, condK_f, extA_0, extA_1, extA_2, not_bool, Bool.not_true, Bool.not_false, neq_nn, neq_in, eql_nn, eql_in, List.append_assoc, List.cons_append, Bool.false_and, Bool.false_eq_true, if_false]
    exact endB_n1 [_] rfl
theorem msgK {s : Stp} (h : SFu s) {m : Msg} (wm : m.wf) (he : m.es.length < 2^39) (hd : lightP m.es) (hml : m.mems.length < 2^40) (ho : s.out.length < 700000) {β : Type} {P R : List AObj} {K : AV → List AObj → List Nat → Option β} : callK (EV C) false n_raft_stepper_msg [.ptr (P.length + 1) 1 0 0, m.av] (hp P s R) K = K (.tup []) (hp P (msgF s m) R) [] := (msg_m h wm he hd hml ho).call0 (by simp [goodL, Msg.avgood wm])
end Go.Pm
namespace Go.Pm
open Go.Proofs
set_option linter.unusedVariables false
set_option linter.unusedSimpArgs false
structure Inp where
  kind : Int
  draw : Int
  index : Int
  msg : Msg
  data : List UInt8
  mems : List Int
def Inp.cs (x : Inp) : List AV := [.int .i64 x.kind, .int .i64 x.draw, .int .i64 x.index] ++ (x.msg.cs ++ [bys x.data, ints x.mems])
def Inp.av (x : Inp) : AV := .agg x.cs
def Inp.row (x : Inp) : AObj := .row 22 [x.av]
theorem Inp.cslen {x : Inp} (w : x.msg.wf) : x.cs.length = 22 := by simp [Inp.cs, Msg.cslen w]
theorem Inp.csone {x : Inp} (w : x.msg.wf) : x.cs.all AV.one = true := by
  unfold Inp.cs
  simp only [List.all_append, Msg.csone w]
  simp [AV.one, ints, bys]
theorem Inp.good {x : Inp} (w : x.msg.wf) : x.av.good = true := by
  have := Msg.avgood w
  unfold Msg.av at this
  simp only [AV.good] at this
  unfold Inp.av Inp.cs
  simp only [AV.good, goodL_append, this]
  simp [goodL, AV.good]
def zN : AV := .agg [(.int .i64 0), (.int .i64 0), (.int .i64 0), (.int .i64 0), (.int .i64 0), (.int .i64 0), (.int .i64 0), .nils, .nils, (.int .i64 0), .nils, (.int .i64 0), (.int .i64 0), (.int .i64 0), (.int .i64 0), (.int .i64 0), (.int .i64 0), (.int .i64 0), (.int .i64 0), (.int .i64 0), (.int .i64 0), (.int .i64 0), (.int .i64 0), (.int .i64 0), (.int .i64 0), (.int .i64 0), (.int .i64 0), (.int .i64 0), (.int .i64 0)]
def noNde : Nde := ⟨0, 0, 0, 0, 0, noLog, 0, [], List.replicate 8 0, List.replicate 8 0, 0, 0⟩
def P3 (n : Nde) (x : Inp) (z : AV) : List AObj := [n.row, x.row, .row 29 [z]]
def Stp.nav (s : Stp) : AV := .agg (s.hd ++ (s.n.next.map i64 ++ (s.n.mtch.map i64 ++ [.int .i64 s.n.ticks, .int .i64 s.n.timeout])))
theorem nav_len {s : Stp} (w : s.n.wf) : s.nav.cells.length = 29 := by
  show (s.hd ++ _).length = 29
  simp [Stp.hd, w.ln, w.lm]
theorem nav_one {s : Stp} : s.nav.cells.all AV.one = true := by
  show (s.hd ++ _).all AV.one = true
  simp only [List.all_append, one_i64, Stp.hd, List.all_cons, List.all_nil, one_eav, one_vav]
  rfl
theorem bel_vav {s : Stp} (m : Nat) : s.vav.bel m = true := by
  unfold Stp.vav nilv; split
  · rfl
  · exact bel_good m _ (good_ints _)
theorem belL_app (m : Nat) (a b : List AV) : belL m (a ++ b) = (belL m a && belL m b) := by
  induction a with
  | nil => rfl
  | cons x a ih => simp only [List.cons_append, belL, ih, Bool.and_assoc]
theorem nav_bel {s : Stp} (m : Nat) : belL m s.nav.cells = true := by
  show belL m (s.hd ++ _) = true
  simp only [belL_app, belL_good m _ (goodL_i64 _)]
  simp [Stp.hd, belL, AV.bel, bel_eav, bel_vav, bel_good m _ (good_ints _)]
theorem frzL_app (H : List AObj) {a b a' b' : List AV} (h1 : frzL H a = some a') (h2 : frzL H b = some b') : frzL H (a ++ b) = some (a' ++ b') := by
  induction a generalizing a' with
  | nil => simp only [frzL, Option.some.injEq] at h1; subst h1; exact h2
  | cons x a ih =>
    simp only [frzL, Option.bind_eq_some_iff, Option.map_eq_some_iff] at h1
    obtain ⟨c, hc, ds, hds, rfl⟩ := h1
    exact frzL_cons hc (ih hds)
theorem frz_nav {s : Stp} (w : s.wf) (H : List AObj) : frz H s.nav = some s.n.av := by
  have h1 : frzL H s.hd = some [.int .i64 s.n.id, .int .i64 s.n.term, .int .i64 s.n.voted, .int .i64 s.n.role, .int .i64 s.n.leader, .int .i64 s.n.log.index, .int .i64 s.n.log.term, ints s.n.log.mems, ents s.n.log.es, .int .i64 s.n.commit, ints s.n.votes] := by
    unfold Stp.hd
    simp only [frzL, frz_eav w, frz_vav w, frz_good H _ (good_ints _), Option.bind_some, Option.map_some]
    rfl
  have h2 : frzL H (s.n.next.map i64 ++ (s.n.mtch.map i64 ++ [.int .i64 s.n.ticks, .int .i64 s.n.timeout])) = some (s.n.next.map i64 ++ (s.n.mtch.map i64 ++ [.int .i64 s.n.ticks, .int .i64 s.n.timeout])) := frzL_good H _ (by simp only [goodL_append, goodL_i64]; simp [goodL, AV.good])
  unfold Stp.nav
  rw [frz_agg (frzL_app H h1 h2)]
  rfl
section
variable {n : Nde} {x : Inp} {z : AV} {s : Stp} {R : List AObj}
theorem l4_all (w : s.n.wf) : loadA true 29 (.ptr 4 1 0 0) (hp (P3 n x z) s R) = some s.nav := by
  have h : (hp (P3 n x z) s R)[4]? = some (srow 3 s) := hp_S (P3 n x z) s R
  rw [ld_aggp (cs := s.cs 3) h (by simp [Stp.cs, Stp.hd, w.ln, w.lm])]
  have e : s.cs 3 = (s.hd ++ (s.n.next.map i64 ++ (s.n.mtch.map i64 ++ [.int .i64 s.n.ticks, .int .i64 s.n.timeout]))) ++ [.slc 3 0 s.out.length s.out.length, .int .i64 s.num] := by simp [Stp.cs]
  rw [List.drop_zero, e, List.take_left' (by simp [Stp.hd, w.ln, w.lm])]
  rfl
theorem l4_out (w : s.n.wf) : loadA false 1 (.ptr 4 1 0 29) (hp (P3 n x z) s R) = some (.slc 3 0 s.out.length s.out.length) := ls_out (P := P3 n x z) w
theorem l4_num (w : s.n.wf) : loadA false 1 (.ptr 4 1 0 30) (hp (P3 n x z) s R) = some (.int .i64 s.num) := ls_num (P := P3 n x z) w
theorem l2_all (w : s.n.wf) : loadA true 29 (.ptr 2 1 0 0) (hp (P3 n x s.nav) s R) = some s.nav := by
  have h : (hp (P3 n x s.nav) s R)[2]? = some (.row 29 [s.nav]) := rfl
  rw [ld_aggp (cs := s.nav.cells) h (by rw [List.drop_zero, nav_len w]; exact Nat.le_refl _), List.drop_zero, List.take_of_length_le (by rw [nav_len w]; exact Nat.le_refl _)]
  rfl
theorem s2_all (w : s.n.wf) (zc : List AV) (hz : zc.length = 29) {β : Type} {K : List AObj → List Nat → Option β} : stoK 29 (.ptr 2 1 0 0) s.nav (hp (P3 n x (.agg zc)) s R) K = K (hp (P3 n x s.nav) s R) [] := by
  have h : (hp (P3 n x (.agg zc)) s R)[2]? = some (.row 29 [.agg zc]) := rfl
  rw [sto_row (n := 29) h (nav_len w) nav_one (nav_bel _) (by omega)]
  have e : zc.take 0 ++ s.nav.cells ++ zc.drop (0 + 29) = s.nav.cells := by
    rw [List.take_zero, List.nil_append, List.drop_of_length_le (by omega), List.append_nil]
  rw [e]; rfl
/-- what a step answers -/
def Stp.res (s : Stp) : AV := .tup [s.n.av, .lst (s.out.map Msg.av), .int .i64 s.num, .nili]
theorem goodL_out (w : s.wf) : goodL (s.out.map Msg.av) = true := goodL_all.2 fun v hv => by
  obtain ⟨m, hm, rfl⟩ := List.mem_map.1 hv
  exact Msg.avgood (w.out m hm)
theorem res_end (w : s.wf) : endB false false 0 (.tup [s.nav, .slc 3 0 s.out.length s.out.length, .int .i64 s.num, .nili]) (hp (P3 n x s.nav) s R) [] = some (s.res, [], []) := by
  have ho : frz (hp (P3 n x s.nav) s R) (.slc 3 0 s.out.length s.out.length) = some (.lst (s.out.map Msg.av)) := frz_vro (z := 17) (hp_O (P3 n x s.nav) s R) (by simp) (goodL_out w)
  refine endB_frz (frz_tup (frzL_cons (frz_nav w _) (frzL_cons ho (frzL_cons rfl (frzL_cons rfl rfl))))) ?_
  simp only [Stp.res, AV.good, goodL, Nde.good, goodL_out w, Bool.and_self]
end
/-- what it does in a step -/
def Stp.new (n : Nde) : Stp := ⟨n, false, false, [], 0⟩
def compF (s : Stp) (i : Int) : Stp := { s with n := { s.n with log := compactL s.n.log i }, num := i, en := false }
def stepF (n : Nde) (x : Inp) : Stp :=
  let s := Stp.new n
  if x.kind = 0 then tickF s x.draw
  else if x.kind = 1 then msgF s x.msg
  else if x.kind = 2 then (if n.role = 2 then (if (x.data.length : Int) ≤ 4096 then (if lastS s < most then proposeF s 1 x.data else s) else s) else s)
  else if x.kind = 3 then changeF s x.mems
  else if x.kind = 4 then (if n.log.index < x.index then (if x.index ≤ n.commit then compF s x.index else s) else s)
  else s
def stepA (n : Nde) (x : Inp) : AV := if soundN n = true then (stepF n x).res else .tup [noNde.av, .lst [], .int .i64 0, codeA 3]
theorem findIdx_app {l : List AV} {v : AV} {r : List AV} (h : l.all (fun a => !isNils a) = true) (hv : isNils v = true) : (l ++ v :: r).findIdx? isNils = some l.length := by
  induction l with
  | nil => simp [List.findIdx?_cons, hv]
  | cons a l ih =>
    simp only [List.all_cons, Bool.and_eq_true, Bool.not_eq_true'] at h
    simp only [List.cons_append, List.findIdx?_cons, h.1, Bool.false_eq_true, if_false, List.length_cons]
    rw [ih (by simpa using h.2)]; rfl
theorem nonil_i64 (l : List Int) : (l.map i64).all (fun a => !isNils a) = true := by
  rw [List.all_map]; exact List.all_eq_true.2 fun x _ => rfl
end Go.Pm
namespace Go.Pm
open Go.Proofs
set_option linter.unusedVariables false
set_option linter.unusedSimpArgs false
theorem allF_wf {s : Stp} (h : s.wf) : (allF s).wf := others_wf (bringM s.n) (bringM_wf _) _ s h
theorem leadsF_wf {s : Stp} (h : SGd s) (he : EOk s.n 0 []) : (leadsF s).wf := allF_wf (countsF_gd (addF_gd (s := resetF s) (resetF_gd h) he)).w
theorem standsF_wf {s : Stp} (h : SGd s) (d : Int) (ht : termL s.n.log (lastL s.n.log) ≤ s.n.term) (h0 : 0 ≤ s.n.term) (h1 : s.n.term < most) (hl : s.n.log.es.length + 1 < 2^40) : (standsF s d).wf := by
  have hc := candF_gd h d
  unfold standsF
  dsimp only
  split
  · refine leadsF_wf hc ⟨?_, ?_, ?_, by decide, by decide, fun h => absurd h (by decide), by decide, hl⟩
    · show termL s.n.log (lastL s.n.log) ≤ s.n.term + 1; omega
    · show 1 ≤ s.n.term + 1; omega
    · show s.n.term + 1 ≤ most; omega
  · exact others_wf _ (fun _ => askM_wf _) _ _ hc.w
theorem tickF_wf {s : Stp} (h : SFu s) (d : Int) : (tickF s d).wf := by
  have hg : SGd (ticksF s) := h.toSGd.ticks _
  unfold tickF
  dsimp only
  split
  · split
    · exact allF_wf (hg.ticks 0).w
    · exact hg.w
  · split
    · split
      · split
        · exact standsF_wf hg d h.t0 h.t00 (by assumption) (by have := h.el; show s.n.log.es.length + 1 < _; omega)
        · exact hg.w
      · exact hg.w
    · exact hg.w
theorem proposeF_wf {s : Stp} (h : SGd s) {kind : Int} {data : List UInt8} (he : EOk s.n kind data) : (proposeF s kind data).wf := allF_wf (countsF_gd (numF_gd (addF_gd h he))).w
theorem newF_gd (m : List Int) : ∀ (l : List Int) (s : Stp), SGd s → lastS s < most → SGd (newF m s l) ∧ (newF m s l).n.log = s.n.log ∧ (newF m s l).n.term = s.n.term ∧ (newF m s l).out = s.out
  | [], s, h, _ => ⟨h, rfl, rfl, rfl⟩
  | x :: l, s, h, hl => by
    have hla := h.last
    by_cases hx : hasF m x = true
    · rw [newF_has hx]; exact newF_gd m l s h hl
    · rw [newF_not hx]
      have := newF_gd m l _ ((h.setMtch x.toNat 0 (Int.le_refl _) (by omega)).setNext x.toNat (lastS s + 1) (by omega) (by omega)) hl
      exact ⟨this.1, this.2.1, this.2.2.1, this.2.2.2⟩
theorem eok_change {s : Stp} (h : SFu s) (hr : s.n.role = 2) {l : List Int} (hml : mayL l = true) : EOk s.n 2 (byL l) := by
  have ht0 := h.t0; have ht1 := h.t1; have hel := h.el
  have htr : 0 < s.n.term := by rcases h.tr with h | h <;> omega
  refine ⟨ht0, by omega, ht1, by decide, by decide, fun _ => ?_, ?_, by omega⟩
  · rw [ofB_byL (may_mem hml)]; exact hml
  · have := may_len hml; simp [byL]; omega
theorem changeF_wf {s : Stp} (h : SFu s) (l : List Int) : (changeF s l).wf := by
  unfold changeF
  split
  · rename_i hr
    split
    · split
      · split
        · exact h.w
        · rename_i hls
          split
          · split
            · exact h.w
            · split
              · rename_i hml
                have hn := newF_gd (memsS s) l s h.toSGd (by omega)
                refine proposeF_wf hn.1 ?_
                have he := eok_change h hr hml
                unfold EOk at he ⊢
                rw [hn.2.1, hn.2.2.1]
                exact he
              · exact h.w
          · exact h.w
      · exact h.w
    · exact h.w
  · exact h.w
theorem askF_wf {s : Stp} (h : s.wf) (m : Msg) : (askF s m).wf := by
  unfold askF
  dsimp only
  refine sendF_wf ?_ (tail0_wf rfl) _
  split
  · exact ⟨⟨h.n.ln, h.n.lm⟩, h.vn, h.en, h.out⟩
  · exact h
theorem appB_wf {f : Stp} (h : f.wf) (m : Msg) (p : Int) (e : List Ent) : (appB f m p e).wf := by
  unfold appB
  dsimp only
  split
  · split
    · exact h
    · split
      · exact h
      · refine sendF_wf ?_ (tail0_wf rfl) _
        exact ⟨⟨h.n.ln, h.n.lm⟩, h.vn, (fun h => by cases h), h.out⟩
  · exact h
theorem followF_wf {s : Stp} (h : s.wf) (frm : Int) : (followF s frm).wf := ⟨⟨h.n.ln, h.n.lm⟩, fun _ => rfl, h.en, h.out⟩
theorem appF_wf {s : Stp} (h : s.wf) (m : Msg) : (appF' s m).wf := by
  have hf := followF_wf h m.frm
  unfold appF'
  dsimp only
  split
  · exact h
  · split
    · exact appB_wf hf _ _ _
    · split
      · split
        · exact appB_wf hf _ _ _
        · exact sendF_wf hf (tail0_wf rfl) _
      · exact sendF_wf hf (tail0_wf rfl) _
theorem snapF_wf {s : Stp} (h : s.wf) (m : Msg) : (snapF s m).wf := by
  have hf := followF_wf h m.frm
  unfold snapF
  dsimp only
  split
  · exact h
  · split
    · split
      · exact h
      · split
        · exact sendF_wf hf (tail0_wf rfl) _
        · unfold snapE
          split
          · have hs : ({ followF s m.frm with n := { (followF s m.frm).n with log := snapL s.n m, commit := m.index }, en := !snapKeep s.n m } : Stp).wf := by
              refine ⟨⟨h.n.ln, h.n.lm⟩, fun _ => rfl, fun hk => ?_, h.out⟩
              show (snapL s.n m).es = []
              unfold snapL
              rw [if_neg (by simpa using hk)]
            have := sendF_wf (m := { msg0 4 with ok := true, index := m.index }) hs (tail0_wf rfl) m.frm
            exact ⟨this.n, this.vn, this.en, this.out⟩
          · exact hf
    · exact h
theorem ackF_wf {s : Stp} (h : SGd s) {m : Msg} (h0 : 1 ≤ m.frm) (h7 : m.frm ≤ 7) (hi0 : 0 ≤ m.index) (hi1 : m.index ≤ most) : (ackF s m).wf := by
  have h8 : m.frm.toNat < 8 := by omega
  unfold ackF
  dsimp only
  split
  · split
    · exact h.w
    · have hc := countsF_gd (fwdF_gd (gotF_gd h m h8 hi0 hi1) m h8)
      split
      · split
        · exact sendF_wf hc.w (bringM_wf _ _) _
        · exact hc.w
      · exact hc.w
  · exact sendF_wf (backF_gd h m (by omega) (by omega)).w (bringM_wf _ _) _
theorem voteF_gd {s : Stp} (h : SGd s) (m : Msg) : SGd (voteF s m) := by
  unfold voteF
  split
  · exact h
  · exact ⟨⟨⟨⟨h.w.n.ln, h.w.n.lm⟩, (fun h => by cases h), h.w.en, h.w.out⟩, h.lg, h.sl⟩, h.id0, h.id1, h.nx, h.mt, h.c0, h.c1⟩
theorem voteF_n (s : Stp) (m : Msg) : (voteF s m).n.log = s.n.log ∧ (voteF s m).n.term = s.n.term := by
  unfold voteF; split <;> exact ⟨rfl, rfl⟩
theorem hearF_wf {s : Stp} (h : SFu s) {m : Msg} (f0 : 1 ≤ m.frm) (f7 : m.frm ≤ 7) (mt : 1 ≤ m.term) (hmt : m.term ≤ s.n.term) (hi0 : 0 ≤ m.index) (hi1 : m.index ≤ most) : (hearF s m).wf := by
  have ht0 := h.t0; have ht1 := h.t1; have hel := h.el
  unfold hearF
  split
  · split
    · exact sendF_wf h.w (tail0_wf rfl) _
    · split
      · exact sendF_wf h.w (tail0_wf rfl) _
      · split
        · exact sendF_wf h.w (tail0_wf rfl) _
        · exact h.w
  · split
    · exact askF_wf h.w m
    · split
      · split
        · split
          · have hv := voteF_gd h.toSGd m
            have hvn := voteF_n s m
            unfold wonF
            split
            · refine leadsF_wf hv ?_
              unfold EOk
              rw [hvn.1, hvn.2]
              exact ⟨ht0, by omega, ht1, by decide, by decide, fun h => absurd h (by decide), by decide, by omega⟩
            · exact hv.w
          · exact h.w
        · exact h.w
      · split
        · exact appF_wf h.w m
        · split
          · exact snapF_wf h.w m
          · split
            · split
              · split
                · exact ackF_wf h.toSGd f0 f7 hi0 hi1
                · exact h.w
              · exact h.w
            · exact h.w
theorem msgF_wf {s : Stp} (h : SFu s) (m : Msg) : (msgF s m).wf := by
  have hmo : most = 1152921504606846976 := rfl
  unfold msgF
  split
  · rename_i hv
    simp only [validM, Bool.and_eq_true, inF_iff] at hv
    have ht := h.t1
    split
    · exact hearF_wf (newT_fu h (by assumption) (by omega)) hv.2.2.1.1 hv.2.2.1.2 hv.2.2.2.1.1 (Int.le_refl _) hv.2.2.2.2.1.1 (by omega)
    · exact hearF_wf h hv.2.2.1.1 hv.2.2.1.2 hv.2.2.2.1.1 (by omega) hv.2.2.2.2.1.1 (by omega)
  · exact h.w
structure StepIn (n : Nde) (x : Inp) : Prop where
  nw : n.wf
  m : x.msg.wf
  lg : LgOk n.log
  hv : n.votes.length < 2^39
  hes : n.log.es.length + 1 < 2^39
  he : x.msg.es.length < 2^39
  hd : lightP x.msg.es
  hml : x.msg.mems.length < 2^40
  hdata : x.data.length < 2^40
  hmems : x.mems.length < 2^60
theorem tabB_iff (n : Nde) : ∀ (m i : Nat), tabB n i m = true ↔ ∀ j, i ≤ j → j < i + m → cntF (n.next.getD j 0) = true ∧ cntF (n.mtch.getD j 0) = true
  | 0, i => by simp [tabB]; intro j h1 h2; omega
  | m + 1, i => by
    simp only [tabB, Bool.and_eq_true, tabB_iff n m (i + 1)]
    constructor
    · intro h j h1 h2
      rcases Nat.lt_or_ge i j with hlt | hge
      · exact h.2 j (by omega) (by omega)
      · have : j = i := by omega
        subst this; exact h.1
    · intro h
      exact ⟨h i (Nat.le_refl _) (by omega), fun j h1 h2 => h j (by omega) (by omega)⟩
theorem cntF_iff {a : Int} : cntF a = true ↔ 0 ≤ a ∧ a ≤ most := by unfold cntF; rw [inF_iff]; rfl
theorem chk_ge : ∀ {l : List Ent} {t : Int}, chkEs t l = true → ∀ e ∈ l, 1 ≤ e.term ∧ t ≤ e.term
  | [], t, h, e, he => by cases he
  | x :: l, t, h, e, he => by
    simp only [chkEs, Bool.and_eq_true] at h
    have h1 := h.1
    simp only [entOk, Bool.and_eq_true, decide_eq_true_eq] at h1
    rcases List.mem_cons.1 he with rfl | he
    · omega
    · have := chk_ge h.2 e he; omega
theorem sound_fu {n : Nde} {x : Inp} (h : StepIn n x) (hs : soundN n = true) : SFu (Stp.new n) := by
  simp only [soundN, Bool.and_eq_true, Bool.or_eq_true, decide_eq_true_eq, inF_iff, cntF_iff] at hs
  obtain ⟨sl, id, tm, vo, le, ro, tr, co, ti, to_, tb, vt⟩ := hs
  have hmo : most = 1152921504606846976 := rfl
  have htb := (tabB_iff n 8 0).1 tb
  have htl : 0 ≤ termL n.log (lastL n.log) := by
    simp only [soundL, Bool.and_eq_true, decide_eq_true_eq] at sl
    rw [termL_last]
    cases hg : n.log.es.getLast? with
    | none => show 0 ≤ n.log.term; omega
    | some e =>
      show 0 ≤ e.term
      have := chk_ge sl.2.2 e (List.mem_of_getLast? hg)
      omega
  exact { toSGd := ⟨⟨⟨h.nw, (fun h => by cases h), (fun h => by cases h), (fun m hm => by cases hm)⟩, h.lg, sl⟩, id.1, id.2, fun i hi => by have := (htb i (Nat.zero_le _) (by omega)).1; rw [cntF_iff] at this; exact this, fun i hi => by have := (htb i (Nat.zero_le _) (by omega)).2; rw [cntF_iff] at this; exact this, co.1, co.2⟩
          t0 := tm.1
          t00 := by show 0 ≤ n.term; omega
          t1 := by show n.term ≤ most; omega
          k0 := ti.1
          k1 := ti.2
          vl := h.hv
          el := h.hes
          tr := tr }
end Go.Pm
namespace Go.Pm
open Go.Proofs
set_option linter.unusedVariables false
set_option linter.unusedSimpArgs false
theorem new_agg0 {β : Type} {cs : List AV} {H : List AObj} {K : AV → List AObj → List Nat → Option β} (h0 : cs ≠ []) (h1 : cs.all AV.one = true) : newK (.agg cs) H K = K (.ptr H.length 1 0 0) (H ++ [.row cs.length [.agg cs]]) [] := by
  have : newA (.agg cs) H = some (.ptr H.length 1 0 0, H ++ [.row cs.length [.agg cs]], []) := by
    unfold newA
    rw [show (AV.agg cs).cells = cs from rfl, if_pos ⟨h0, h1⟩]
  unfold newK; rw [this]; rfl
theorem new_inp {β : Type} {x : Inp} (w : x.msg.wf) {H : List AObj} {K : AV → List AObj → List Nat → Option β} : newK x.av H K = K (.ptr H.length 1 0 0) (H ++ [x.row]) [] := by
  unfold Inp.av
  rw [new_agg0 (by intro e; have := Inp.cslen w; simp [e] at this) (Inp.csone w), Inp.cslen w]; rfl
theorem nonil_n (n : Nde) : n.cs.all (fun a => !isNils a) = true := by
  unfold Nde.cs
  simp only [List.all_append, nonil_i64]
  simp [isNils, ints, ents]
theorem trm_n {β : Type} {n : Nde} (w : n.wf) {H : List AObj} {K : AV → List AObj → List Nat → Option β} : trmK (.agg (n.cs ++ [.nils, .int .i64 0])) H [] K = K (.agg (n.cs ++ [.slc H.length 0 0 0, .int .i64 0])) (H ++ [.vrow]) [] := by
  have hl := Nde.len w
  have : trimA (.agg (n.cs ++ [.nils, .int .i64 0]), H, ([] : List Nat)) = some (.agg (n.cs ++ [.slc H.length 0 0 0, .int .i64 0]), H ++ [.vrow], []) := by
    unfold trimA
    have hfi : (n.cs ++ [AV.nils, AV.int .i64 0]).findIdx? isNils = some n.cs.length := findIdx_app (v := .nils) (r := [.int .i64 0]) (nonil_n n) rfl
    simp only [hfi]
    rw [List.set_append_right _ _ (by omega)]
    simp
  unfold trmK; rw [this]; rfl
theorem CompactK {s : Stp} (g : Lg) (hg : LgOk g) (hs : soundL g = true) {i : Int} (hi : hasL g i = true) {β : Type} {H : List AObj} {K : AV → List AObj → List Nat → Option β} : callK (EV C) false n_log_Compact [g.av, .int .i64 i] H K = K (.tup [(compactL g i).av, .nili]) H [] := by
  refine callK_ok (by simp [goodL, AV.good]) ?_
  rw [Compact_ok _ _ hg]
  unfold compactA
  rw [if_pos hs, if_pos hi]
set_option maxHeartbeats 4000000 in
theorem Step_ok (n : Nde) (x : Inp) (h : StepIn n x) : EV C n_raft_Step [n.av, x.av] [] = some (stepA n x, [], []) := by
  refine raft_Step_of ?_
  have hmo : most = 1152921504606846976 := rfl
  have w := h.nw
  have n0 : ([n.row, x.row, .row 29 [zN]] : List AObj)[0]? = some n.row := rfl
  dsimp only
  rw [new_nd w]
  simp -implicitDefEqProofs only [List.length_nil, List.nil_append]
  rw [new_inp h.m]
  simp -implicitDefEqProofs only [List.length_singleton, List.singleton_append, List.cons_append, List.nil_append]
  rw [new_agg0 (by simp) rfl]
  simp -implicitDefEqProofs only [List.length_cons, List.length_nil, Nat.reduceAdd, Nat.zero_add, List.cons_append, List.nil_append]
  rw [show ([n.row, x.row, .row 29 [AV.agg [(.int .i64 0), (.int .i64 0), (.int .i64 0), (.int .i64 0), (.int .i64 0), (.int .i64 0), (.int .i64 0), .nils, .nils, (.int .i64 0), .nils, (.int .i64 0), (.int .i64 0), (.int .i64 0), (.int .i64 0), (.int .i64 0), (.int .i64 0), (.int .i64 0), (.int .i64 0), (.int .i64 0), (.int .i64 0), (.int .i64 0), (.int .i64 0), (.int .i64 0), (.int .i64 0), (.int .i64 0), (.int .i64 0), (.int .i64 0), (.int .i64 0)]]] : List AObj) = [n.row, x.row, .row 29 [zN]] from rfl]
  rw [ld_node w n0, Option.bind_some, callK_ok (by simp [goodL, Nde.good]) (check_ok n w (by have := h.hv; omega) h.lg)]
  unfold stepA formA
  cases hs : soundN n with
  | false =>
    simp -implicitDefEqProofs only [Bool.false_eq_true, if_false, neq_in, Option.bind_some, condK_t]
    refine (congrArg (fun x => Option.bind x _) (show fillB _ _ = some _ from rfl)).trans ?_
    rw [Option.bind_some]
    have s0 : ∀ (K : List AObj → List Nat → Option R3), stoK 29 (.ptr 2 1 0 0) zN [n.row, x.row, .row 29 [zN]] K = K [n.row, x.row, .row 29 [zN]] [] := fun K => rfl
    have l0 : loadA true 29 (.ptr 2 1 0 0) [n.row, x.row, .row 29 [zN]] = some zN := rfl
    refine (s0 _).trans ?_
    rw [l0, Option.bind_some]
    exact endB_frz (u := .tup [noNde.av, .lst [], .int .i64 0, codeA 3]) rfl rfl
  | true =>
    have hf := sound_fu h hs
    simp -implicitDefEqProofs only [if_true, neq_nn, Option.bind_some, condK_f, ld_node w n0]
    have hfill : ∀ K : List AV → Option R3, (fillB (AV.cells (.agg [(.int .i64 0), (.int .i64 0), (.int .i64 0), (.int .i64 0), (.int .i64 0), (.int .i64 0), (.int .i64 0), .nils, .nils, (.int .i64 0), .nils, (.int .i64 0), (.int .i64 0), (.int .i64 0), (.int .i64 0), (.int .i64 0), (.int .i64 0), (.int .i64 0), (.int .i64 0), (.int .i64 0), (.int .i64 0), (.int .i64 0), (.int .i64 0), (.int .i64 0), (.int .i64 0), (.int .i64 0), (.int .i64 0), (.int .i64 0), (.int .i64 0), .nils, (.int .i64 0)])) [(0, 29, n.av)]).bind K = K (n.cs ++ [.nils, .int .i64 0]) := fun K => by
      have hl := Nde.len w
      simp only [fillB, AV.cells, Nde.av, hl, List.length_cons, List.length_nil, AV.isBad, List.take_zero, List.nil_append]
      rw [if_pos ⟨trivial, by omega, trivial⟩]
      rfl
    rw [hfill, trm_n w]
    simp -implicitDefEqProofs only [List.length_cons, List.length_nil, Nat.reduceAdd, Nat.zero_add, List.cons_append, List.nil_append]
    rw [new_agg0 (by simp) (by simp only [List.all_append, Nde.one n]; rfl)]
    obtain ⟨s, hss⟩ : ∃ s, s = Stp.new n := ⟨_, rfl⟩
    have hrow : ([n.row, x.row, .row 29 [zN], .vrow] ++ [.row (n.cs ++ [AV.slc 3 0 0 0, .int .i64 0]).length [.agg (n.cs ++ [AV.slc 3 0 0 0, .int .i64 0])]] : List AObj) = hp (P3 n x zN) s [] := by
      have e1 : s.cs 3 = n.cs ++ [AV.slc 3 0 0 0, .int .i64 0] := by
        rw [hss]
        simp [Stp.cs, Stp.hd, Stp.new, Nde.cs, Stp.eav, Stp.vav, nilv]
      have e2 : (n.cs ++ [AV.slc 3 0 0 0, .int .i64 0]).length = 31 := by simp [Nde.len w]
      have e3 : orow s = .vrow := by rw [hss]; rfl
      unfold hp srow
      rw [e2, show (P3 n x zN).length = 3 from rfl, e1, e3]
      rfl
    rw [hrow]
    simp -implicitDefEqProofs only [List.length_cons, List.length_nil, Nat.reduceAdd, Nat.zero_add]
    rw [← hss] at hf
    have hsn : s.n = n := by rw [hss]; rfl
    have hso : s.out.length < 700000 := by rw [hss]; show ([] : List Msg).length < _; simp
    -- the ends
    have tail : ∀ (s : Stp) (R : List AObj), s.wf →
        ((loadA true 29 (.ptr 4 1 0 0) (hp (P3 n x zN) s R)).bind fun a22 => (loadA false 1 (.ptr 4 1 0 29) (hp (P3 n x zN) s R)).bind fun a25 => (loadA false 1 (.ptr 4 1 0 30) (hp (P3 n x zN) s R)).bind fun a28 =>
          stoK 29 (.ptr 2 1 0 0) a22 (hp (P3 n x zN) s R) fun H29 E29 =>
          drawK (((loadA false 1 (.ptr 4 1 0 29) H29).bind fun a30 => some a30) = some a25)
          (drawK (((loadA false 1 (.ptr 4 1 0 30) H29).bind fun a31 => some a31) = some a28)
          ((loadA true 29 (.ptr 2 1 0 0) H29).bind fun a32 =>
          endB false false 0 (.tup [a32, a25, a28, .nili]) H29 E29))) = some (s.res, [], []) := fun s R ws => by
      rw [l4_all ws.n, Option.bind_some, l4_out ws.n, Option.bind_some, l4_num ws.n, Option.bind_some]
      rw [show zN = .agg zN.cells from rfl, s2_all ws.n _ rfl, l4_out ws.n, l4_num ws.n, drawK_t (by rfl), drawK_t (by rfl), l2_all ws.n, Option.bind_some]
      exact res_end ws
    have x1 : ∀ {z : AV} {s : Stp} {R : List AObj}, (hp (P3 n x z) s R)[1]? = some x.row := rfl
    have x0 : ∀ {z : AV} {s : Stp} {R : List AObj}, (hp (P3 n x z) s R)[0]? = some n.row := rfl
    have lx0 : ∀ {z : AV} {s : Stp} {R : List AObj}, loadA false 1 (.ptr 1 1 0 0) (hp (P3 n x z) s R) = some (.int .i64 x.kind) := ld_fld x1 rfl
    have lx1 : ∀ {z : AV} {s : Stp} {R : List AObj}, loadA false 1 (.ptr 1 1 0 1) (hp (P3 n x z) s R) = some (.int .i64 x.draw) := ld_fld x1 rfl
    have lx2 : ∀ {z : AV} {s : Stp} {R : List AObj}, loadA false 1 (.ptr 1 1 0 2) (hp (P3 n x z) s R) = some (.int .i64 x.index) := ld_fld x1 rfl
    have hcl : x.msg.cs.length = 17 := Msg.cslen h.m
    have lx20 : ∀ {z : AV} {s : Stp} {R : List AObj}, loadA false 1 (.ptr 1 1 0 20) (hp (P3 n x z) s R) = some (bys x.data) := ld_fld x1 (by
      show x.cs[20]? = _
      unfold Inp.cs
      rw [List.getElem?_append_right (by simp), List.getElem?_append_right (by simp [hcl])]; simp [hcl])
    have lx21 : ∀ {z : AV} {s : Stp} {R : List AObj}, loadA false 1 (.ptr 1 1 0 21) (hp (P3 n x z) s R) = some (ints x.mems) := ld_fld x1 (by
      show x.cs[21]? = _
      unfold Inp.cs
      rw [List.getElem?_append_right (by simp), List.getElem?_append_right (by simp [hcl])]; simp [hcl])
    have lx3 : ∀ {z : AV} {s : Stp} {R : List AObj}, loadA true 17 (.ptr 1 1 0 3) (hp (P3 n x z) s R) = some x.msg.av := fun {z s R} => by
      have h1 : (hp (P3 n x z) s R)[1]? = some (.row 22 [.agg x.cs]) := rfl
      rw [ld_aggp (cs := x.cs) h1 (by simp [Inp.cs, hcl])]
      have e : x.cs.drop 3 = x.msg.cs ++ [bys x.data, ints x.mems] := rfl
      rw [e, List.take_left' hcl]; rfl
    have ln3 : ∀ {z : AV} {s : Stp} {R : List AObj}, loadA false 1 (.ptr 0 1 0 3) (hp (P3 n x z) s R) = some (.int .i64 n.role) := ld_fld x0 rfl
    have ln5 : ∀ {z : AV} {s : Stp} {R : List AObj}, loadA false 1 (.ptr 0 1 0 5) (hp (P3 n x z) s R) = some (.int .i64 n.log.index) := ld_fld x0 rfl
    have ln9 : ∀ {z : AV} {s : Stp} {R : List AObj}, loadA false 1 (.ptr 0 1 0 9) (hp (P3 n x z) s R) = some (.int .i64 n.commit) := ld_fld x0 rfl
    have lnl : ∀ {z : AV} {s : Stp} {R : List AObj}, loadA true 4 (.ptr 0 1 0 5) (hp (P3 n x z) s R) = some n.log.av := ld_log x0
    have tk : ∀ (d : Int) (K : AV → List AObj → List Nat → Option R3), callK (EV C) false n_raft_stepper_tick [.ptr 4 1 0 0, .int .i64 d] (hp (P3 n x zN) s []) K = K (.tup []) (hp (P3 n x zN) (tickF s d) []) [] := fun d K => tickK hf d (by omega)
    have mk : ∀ (K : AV → List AObj → List Nat → Option R3), callK (EV C) false n_raft_stepper_msg [.ptr 4 1 0 0, x.msg.av] (hp (P3 n x zN) s []) K = K (.tup []) (hp (P3 n x zN) (msgF s x.msg) []) [] := fun K => msgK hf h.m h.he h.hd h.hml hso
    have ck : ∀ (K : AV → List AObj → List Nat → Option R3), callK (EV C) false n_raft_stepper_change [.ptr 4 1 0 0, ints x.mems] (hp (P3 n x zN) s []) K = K (.tup []) (hp (P3 n x zN) (changeF s x.mems) []) [] := fun K => changeK hf x.mems h.hmems (by omega)
    have lk : ∀ (K : AV → List AObj → List Nat → Option R3), callK (EV C) false n_raft_stepper_last [.ptr 4 1 0 0] (hp (P3 n x zN) s []) K = K (.int .i64 (lastS s)) (hp (P3 n x zN) s []) [] := fun K => lastK hf.toSOk
    unfold stepF
    rw [← hss]
    dsimp only
    simp -implicitDefEqProofs only [nilA_ptr, offA_ptr, Option.bind_some, Nat.zero_add, Nat.add_zero, Nat.reduceAdd, List.append_nil, lx0, lx1, lx2, lx3, eql_int, condK_dec, tk, mk]
    by_cases k0 : x.kind = 0
    · rw [if_pos k0, if_pos k0]
      exact tail _ [] (tickF_wf hf x.draw)
    · rw [if_neg k0, if_neg k0]
      by_cases k1 : x.kind = 1
      · rw [if_pos k1, if_pos k1]
        exact tail _ [] (msgF_wf hf x.msg)
      · rw [if_neg k1, if_neg k1]
        by_cases k2 : x.kind = 2
        · rw [if_pos k2, if_pos k2]
          simp -implicitDefEqProofs only [nilA_ptr, offA_ptr, Option.bind_some, Nat.zero_add, Nat.add_zero, Nat.reduceAdd, List.append_nil, ln3, lx20, eql_int, splitK_dec, lenV_bys, leq_int]
          by_cases r2 : n.role = 2
          · rw [if_pos r2, if_pos r2]
            by_cases hd : (x.data.length : Int) ≤ 4096
            · rw [if_pos hd, if_pos hd, lk]
              simp -implicitDefEqProofs only [nilA_ptr, offA_ptr, Option.bind_some, Nat.zero_add, Nat.add_zero, Nat.reduceAdd, List.append_nil, lss_int, condK_dec, lx20]
              by_cases hl : lastS s < most
              · have he : EOk s.n 1 x.data := by
                  have ht0 := hf.t0; have ht1 := hf.t1; have hel := hf.el; have hdd := h.hdata
                  have hsr : s.n.role = 2 := by rw [hsn]; exact r2
                  have htr : 0 < s.n.term := by rcases hf.tr with h | h <;> omega
                  exact ⟨ht0, by omega, ht1, by decide, by decide, fun h => absurd h (by decide), hdd, by omega⟩
                have pk : ∀ (K : AV → List AObj → List Nat → Option R3), callK (EV C) false n_raft_stepper_propose [.ptr 4 1 0 0, .int .i64 1, bys x.data] (hp (P3 n x zN) s []) K = K (.tup []) (hp (P3 n x zN) (proposeF s 1 x.data) []) [] := fun K => (propose_m hf.toSGd 1 x.data he (by omega)).call0 (by simp [goodL, AV.good])
                rw [if_pos hl, show ∀ a b : Option R3, (if lastS s < 1152921504606846976 then a else b) = a from fun a b => if_pos hl]
                simp -implicitDefEqProofs only [pk, List.append_nil]
                exact tail _ [] (proposeF_wf hf.toSGd he)
              · rw [if_neg hl, show ∀ a b : Option R3, (if lastS s < 1152921504606846976 then a else b) = b from fun a b => if_neg hl]
                exact tail _ [] hf.w
            · rw [if_neg hd, if_neg hd]
              exact tail _ [] hf.w
          · rw [if_neg r2, if_neg r2]
            exact tail _ [] hf.w
        · rw [if_neg k2, if_neg k2]
          by_cases k3 : x.kind = 3
          · rw [if_pos k3, if_pos k3]
            simp -implicitDefEqProofs only [nilA_ptr, offA_ptr, Option.bind_some, Nat.zero_add, Nat.add_zero, Nat.reduceAdd, List.append_nil, lx21, ck]
            exact tail _ [] (changeF_wf hf x.mems)
          · rw [if_neg k3, if_neg k3]
            by_cases k4 : x.kind = 4
            · rw [if_pos k4, if_pos k4]
              simp -implicitDefEqProofs only [nilA_ptr, offA_ptr, Option.bind_some, Nat.zero_add, Nat.add_zero, Nat.reduceAdd, List.append_nil, lx2, ln5, ln9, lnl, gtr_int, leq_int, splitK_dec, condK_dec]
              by_cases hi : n.log.index < x.index
              · rw [if_pos hi, if_pos hi]
                by_cases hc : x.index ≤ n.commit
                · rw [if_pos hc, if_pos hc]
                  have hsl : soundL n.log = true := by have := hf.sl; rw [hsn] at this; exact this
                  have hc1 : n.commit ≤ lastL n.log := by have := hf.c1; rw [hsn] at this; exact this
                  rw [CompactK (s := s) n.log h.lg hsl (hasL_iff.2 ⟨by omega, by have : lastL n.log = n.log.index + n.log.es.length := rfl; omega⟩)]
                  obtain ⟨g, hg⟩ : ∃ g, g = compactL n.log x.index := ⟨_, rfl⟩
                  rw [← hg]
                  simp -implicitDefEqProofs only [extA_0, extA_1, Option.bind_some, eql_nn, condK_t]
                  have nk : ∀ (K : AV → List AObj → List Nat → Option R3), newK (.agg [(.int .i64 0), (.int .i64 0), .nils, .nils]) (hp (P3 n x zN) s []) K = K (.ptr 5 1 0 0) (hp (P3 n x zN) s [.row 4 [.agg [(.int .i64 0), (.int .i64 0), .nils, .nils]]]) [] := fun K => new_R (P := P3 n x zN) (R := []) (by simp) rfl
                  have sk : ∀ (K : List AObj → List Nat → Option R3), stoK 4 (.ptr 5 1 0 0) g.av (hp (P3 n x zN) s [.row 4 [.agg [(.int .i64 0), (.int .i64 0), .nils, .nils]]]) K = K (hp (P3 n x zN) s [.row 4 [g.av]]) [] := fun K => sto_R (P := P3 n x zN) (R := []) (X := []) (n := 4) (off := 0) (v := g.av) rfl rfl (fun k => by simp [Lg.av, AV.cells, belL, bel_good _ _ (good_ints _), bel_good _ _ (good_ents _), AV.bel]) (by simp) rfl
                  have l5 : loadA true 4 (.ptr 5 1 0 0) (hp (P3 n x zN) s [.row 4 [g.av]]) = some g.av := ld4_R (P := P3 n x zN) (R := []) g
                  have s4 : ∀ (K : List AObj → List Nat → Option R3) (R : List AObj), stoK 4 (.ptr 4 1 0 5) g.av (hp (P3 n x zN) s R) K = K (hp (P3 n x zN) { s with n := { s.n with log := g }, en := false } R) [] := fun K R => ss_lav (P := P3 n x zN) g
                  have sn : ∀ (K : List AObj → List Nat → Option R3) (R : List AObj), stoK 1 (.ptr 4 1 0 30) (.int .i64 x.index) (hp (P3 n x zN) { s with n := { s.n with log := g }, en := false } R) K = K (hp (P3 n x zN) { s with n := { s.n with log := g }, en := false, num := x.index } R) [] := fun K R => ss_num (P := P3 n x zN) (s := { s with n := { s.n with log := g }, en := false }) ⟨hf.w.n.ln, hf.w.n.lm⟩ x.index
                  rw [nk, sk]
                  simp -implicitDefEqProofs only [nilA_ptr, offA_ptr, Option.bind_some, Nat.zero_add, Nat.add_zero, Nat.reduceAdd, List.append_nil, lx2, l5, s4, drawK_True, sn]
                  have hcf : compF s x.index = { s with n := { s.n with log := g }, en := false, num := x.index } := by
                    unfold compF; rw [hg, hsn]
                  rw [hcf]
                  exact tail _ [_] ⟨⟨hf.w.n.ln, hf.w.n.lm⟩, hf.w.vn, (fun h => by cases h), hf.w.out⟩
                · rw [if_neg hc, if_neg hc]
                  exact tail _ [] hf.w
              · rw [if_neg hi, if_neg hi]
                exact tail _ [] hf.w
            · rw [if_neg k4, if_neg k4]
              exact tail _ [] hf.w
end Go.Pm
namespace Go.Pm
open Go.Proofs
set_option linter.unusedVariables false
set_option linter.unusedSimpArgs false
theorem sto_node {H : List AObj} {l : Nat} {cs : List AV} {n : Nde} (w : n.wf) (h : H[l]? = some (.row 29 [.agg cs])) (hl : cs.length = 29) {β : Type} {K : List AObj → List Nat → Option β} : stoK 29 (.ptr l 1 0 0) n.av H K = K (H.set l n.row) [] := by
  have hc : n.av.cells = n.cs := rfl
  rw [sto_row (n := 29) h (by rw [hc]; exact Nde.len w) (by rw [hc]; exact Nde.one n) (by rw [hc]; have := bel_good (l + 1) _ (Nde.good n); exact this) (by omega)]
  have e : cs.take 0 ++ n.av.cells ++ cs.drop (0 + 29) = n.cs := by
    rw [List.take_zero, List.nil_append, List.drop_of_length_le (by omega), List.append_nil]; rfl
  rw [e]; rfl
def newN (id term voted : Int) (l : Lg) (draw : Int) : Nde := ⟨id, term, voted, 0, 0, l, l.index, [], List.replicate 8 0, List.replicate 8 0, 0, toF draw⟩
theorem newN_wf (id term voted : Int) (l : Lg) (draw : Int) : (newN id term voted l draw).wf := ⟨rfl, rfl⟩
/-- as it is first built: its votes are nil -/
def newC (id term voted : Int) (l : Lg) (draw : Int) : List AV := [.int .i64 id, .int .i64 term, .int .i64 voted, .int .i64 0, .int .i64 0, .int .i64 l.index, .int .i64 l.term, ints l.mems, ents l.es, .int .i64 l.index, .nils, .int .i64 0, .int .i64 0, .int .i64 0, .int .i64 0, .int .i64 0, .int .i64 0, .int .i64 0, .int .i64 0, .int .i64 0, .int .i64 0, .int .i64 0, .int .i64 0, .int .i64 0, .int .i64 0, .int .i64 0, .int .i64 0, .int .i64 0, .int .i64 (toF draw)]
def newA' (id term voted : Int) (l : Lg) (draw : Int) : AV := if soundN (newN id term voted l draw) = true then .tup [(newN id term voted l draw).av, .nili] else .tup [noNde.av, codeA 3]
theorem new_lg0 {β : Type} {g : Lg} {H : List AObj} {K : AV → List AObj → List Nat → Option β} : newK g.av H K = K (.ptr H.length 1 0 0) (H ++ [.row 4 [g.av]]) [] := new_agg0 (by simp) rfl
set_option maxHeartbeats 1000000 in
theorem New_ok (id term voted : Int) (l : Lg) (draw : Int) (hl : LgOk l) : EV C n_raft_New [.int .i64 id, .int .i64 term, .int .i64 voted, l.av, .int .i64 draw] [] = some (newA' id term voted l draw, [], []) := by
  refine raft_New_of ?_
  have w := newN_wf id term voted l draw
  dsimp only
  rw [new_lg0]
  simp -implicitDefEqProofs only [List.length_nil, List.nil_append]
  rw [new_agg0 (by simp) rfl]
  simp -implicitDefEqProofs only [List.length_singleton, List.singleton_append]
  have la : ∀ X : List AObj, loadA true 4 (.ptr 0 1 0 0) (.row 4 [l.av] :: X) = some l.av := fun X => rfl
  have li : ∀ X : List AObj, loadA false 1 (.ptr 0 1 0 0) (.row 4 [l.av] :: X) = some (.int .i64 l.index) := fun X => rfl
  simp -implicitDefEqProofs only [la, li, offA_ptr, Option.bind_some, Nat.zero_add, callD_ok (show goodL [AV.int .i64 draw] = true from rfl) (timeout_ok draw)]
  refine (congrArg (fun x => Option.bind x _) (show fillB _ _ = some (newC id term voted l draw) from rfl)).trans ?_
  rw [Option.bind_some, new_agg0 (by simp) rfl]
  have sk : ∀ (K : List AObj → List Nat → Option R3), stoK 29 (.ptr 2 1 0 0) (.agg (newC id term voted l draw)) [.row 4 [l.av], .row 29 [zN], .row 29 [zN]] K = K [.row 4 [l.av], .row 29 [zN], .row 29 [.agg (newC id term voted l draw)]] [] := fun K => by
    have h : ([.row 4 [l.av], .row 29 [zN], .row 29 [zN]] : List AObj)[2]? = some (.row 29 [.agg zN.cells]) := rfl
    rw [sto_row (n := 29) h rfl rfl (by simp [AV.cells, newC, belL, AV.bel, bel_good _ _ (good_ints _), bel_good _ _ (good_ents _)]) (by decide)]
    rfl
  have lk : loadA true 29 (.ptr 2 1 0 0) [.row 4 [l.av], .row 29 [zN], .row 29 [.agg (newC id term voted l draw)]] = some (.agg (newC id term voted l draw)) := rfl
  have ck : ∀ (H : List AObj) (K : AV → List AObj → List Nat → Option R3), callK (EV C) false n_raft_Check [.agg (newC id term voted l draw)] H K = K (formA (soundN (newN id term voted l draw))) H [] := fun H K =>
    callK_nil (bs := [(newN id term voted l draw).av]) rfl rfl (by simp [goodL, Nde.good]) (check_ok _ w (by show ([] : List Int).length ≤ _; simp) hl)
  refine Eq.trans ?_ (show (some (newA' id term voted l draw, [], []) : Option R3) = _ from rfl)
  simp -implicitDefEqProofs only [List.length_cons, List.length_nil, Nat.reduceAdd, Nat.zero_add, List.cons_append, List.nil_append]
  rw [drawK_t (by rfl), drawK_t (by rfl), drawK_True]
  refine (sk _).trans ?_
  rw [lk, Option.bind_some, ck]
  unfold newA' formA
  cases hs : soundN (newN id term voted l draw) with
  | true =>
    simp -implicitDefEqProofs only [if_true, neq_nn, Option.bind_some, condK_f, lk]
    have s2 : ∀ (K : List AObj → List Nat → Option R3), stoK 29 (.ptr 1 1 0 0) (.agg (newC id term voted l draw)) [.row 4 [l.av], .row 29 [zN], .row 29 [.agg (newC id term voted l draw)]] K = K [.row 4 [l.av], .row 29 [.agg (newC id term voted l draw)], .row 29 [.agg (newC id term voted l draw)]] [] := fun K => by
      have h : ([.row 4 [l.av], .row 29 [zN], .row 29 [.agg (newC id term voted l draw)]] : List AObj)[1]? = some (.row 29 [.agg zN.cells]) := rfl
      rw [sto_row (n := 29) h rfl rfl (by simp [AV.cells, newC, belL, AV.bel, bel_good _ _ (good_ints _), bel_good _ _ (good_ents _)]) (by decide)]
      rfl
    rw [s2]
    exact endB_frz (u := .tup [(newN id term voted l draw).av, .nili]) rfl (by simp [AV.good, goodL, Nde.good])
  | false =>
    simp -implicitDefEqProofs only [Bool.false_eq_true, if_false, neq_in, Option.bind_some, condK_t]
    refine (congrArg (fun x => Option.bind x _) (show fillB _ _ = some zN.cells from rfl)).trans ?_
    rw [Option.bind_some]
    have s2 : ∀ (K : List AObj → List Nat → Option R3), stoK 29 (.ptr 1 1 0 0) (.agg zN.cells) [.row 4 [l.av], .row 29 [zN], .row 29 [.agg (newC id term voted l draw)]] K = K [.row 4 [l.av], .row 29 [zN], .row 29 [.agg (newC id term voted l draw)]] [] := fun K => rfl
    refine (s2 _).trans ?_
    exact endB_frz (u := .tup [noNde.av, codeA 3]) rfl rfl
def tickI : Inp := ⟨0, 0, 0, ⟨0, 0, 0, 0, 0, 0, 0, false, [], [], tail0⟩, [], []⟩
def cmdI : Inp := ⟨2, 0, 0, ⟨0, 0, 0, 0, 0, 0, 0, false, [], [], tail0⟩, [97], []⟩
def upN (j : Int) : Nde := ⟨1, 0, 0, 0, 0, ⟨0, 0, [1], []⟩, 0, [], List.replicate 8 0, List.replicate 8 0, j, 10⟩
def upL : Nde := ⟨1, 1, 1, 2, 1, ⟨0, 0, [1], [⟨1, 0, []⟩]⟩, 1, [], List.replicate 8 1, [0, 1, 0, 0, 0, 0, 0, 0], 0, 10⟩
theorem up_0 : newN 1 0 0 ⟨0, 0, [1], []⟩ 0 = upN 0 := rfl
theorem up_t : ∀ j : Nat, j < 9 → soundN (upN j) = true ∧ (stepF (upN j) tickI).n = upN ((j + 1 : Nat) : Int) := by
  intro j hj
  match j, hj with
  | 0, _ => exact ⟨by decide, by rfl⟩
  | 1, _ => exact ⟨by decide, by rfl⟩
  | 2, _ => exact ⟨by decide, by rfl⟩
  | 3, _ => exact ⟨by decide, by rfl⟩
  | 4, _ => exact ⟨by decide, by rfl⟩
  | 5, _ => exact ⟨by decide, by rfl⟩
  | 6, _ => exact ⟨by decide, by rfl⟩
  | 7, _ => exact ⟨by decide, by rfl⟩
  | 8, _ => exact ⟨by decide, by rfl⟩
theorem up_9 : soundN (upN 9) = true ∧ (stepF (upN 9) tickI).n = upL := ⟨by decide, by rfl⟩
theorem up_c : soundN upL = true ∧ (stepF upL cmdI).n.commit = 2 ∧ (stepF upL cmdI).num = 2 := ⟨by decide, by rfl, by rfl⟩
end Go.Pm
namespace Go.Pm
open Go.Proofs
set_option linter.unusedVariables false
set_option linter.unusedSimpArgs false
theorem upN_in (j : Int) : StepIn (upN j) tickI :=
  { nw := ⟨rfl, rfl⟩, m := tail0_wf rfl, lg := ⟨by show ([1] : List Int).length < _; simp, by show ([] : List Ent).length < _; simp, fun e he => by cases he⟩, hv := by show ([] : List Int).length < _; simp, hes := by show ([] : List Ent).length + 1 < _; simp, he := by show ([] : List Ent).length < _; simp, hd := (fun e he => by cases he), hml := by show ([] : List Int).length < _; simp, hdata := by show ([] : List UInt8).length < _; simp, hmems := by show ([] : List Int).length < _; simp }
theorem upL_in : StepIn upL cmdI :=
  { nw := ⟨rfl, rfl⟩, m := tail0_wf rfl, lg := ⟨by show ([1] : List Int).length < _; simp, by show ([⟨1, 0, []⟩] : List Ent).length < _; simp, fun e he => by
      have : e = ⟨1, 0, []⟩ := by simpa [upL] using he
      subst this; show ([] : List UInt8).length < _; simp⟩, hv := by show ([] : List Int).length < _; simp, hes := by show ([⟨1, 0, []⟩] : List Ent).length + 1 < _; simp, he := by show ([] : List Ent).length < _; simp, hd := (fun e he => by cases he), hml := by show ([] : List Int).length < _; simp, hdata := by show ([97] : List UInt8).length < _; simp, hmems := by show ([] : List Int).length < _; simp }
theorem stepF_wf {n : Nde} {x : Inp} (h : StepIn n x) (hs : soundN n = true) : (stepF n x).wf := by
  have hf := sound_fu h hs
  unfold stepF
  dsimp only
  split
  · exact tickF_wf hf _
  · split
    · exact msgF_wf hf _
    · split
      · split
        · rename_i hr
          split
          · split
            · have ht0 := hf.t0; have ht1 := hf.t1; have hel := hf.el; have hdd := h.hdata
              have hsr : (Stp.new n).n.role = 2 := hr
              have htr : 0 < (Stp.new n).n.term := by rcases hf.tr with h | h <;> omega
              exact proposeF_wf hf.toSGd ⟨ht0, by omega, ht1, by decide, by decide, fun h => absurd h (by decide), hdd, by omega⟩
            · exact hf.w
          · exact hf.w
        · exact hf.w
      · split
        · exact changeF_wf hf _
        · split
          · split
            · split
              · exact ⟨⟨hf.w.n.ln, hf.w.n.lm⟩, hf.w.vn, (fun h => by cases h), hf.w.out⟩
              · exact hf.w
            · exact hf.w
          · exact hf.w
theorem up_J3 : ∀ (m j : Nat) (n : Nde), j + m = 10 → (j < 10 → n = upN (j : Int)) → (j = 10 → n = upL) →
    law19_up_J3 0 (.ptr 0 1 0 0) .nili (.int .i64 (j : Int)) [n.row] [] = some (.bool true, [], [])
  | 0, j, n, hj, h1, h2 => by
    have hn := h2 (by omega)
    subst hn
    refine law19_up_J3_of ?_
    have w : upL.wf := ⟨rfl, rfl⟩
    have hs := up_c.1
    have hsw := stepF_wf upL_in hs
    obtain ⟨c, hc⟩ : ∃ c, c = stepF upL cmdI := ⟨_, rfl⟩
    have hcc : c.n.commit = 2 ∧ c.num = 2 := by rw [hc]; exact up_c.2
    rw [← hc] at hsw
    have hst : EV C n_raft_Step [upL.av, cmdI.av] [] = some (c.res, [], []) := by rw [Step_ok upL cmdI upL_in]; unfold stepA; rw [if_pos hs, hc]
    simp -implicitDefEqProofs only [lss_int, Option.bind_some, condK_dec]
    rw [if_neg (by omega), ld_node w rfl, Option.bind_some]
    have rk : ∀ (K : AV → List AObj → List Nat → Option R3), rawK 1 1 (.int .u8 0) [(0, .int .u8 97)] [upL.row] K = K (.slc 1 0 1 1) [upL.row, .row 1 [.int .u8 97]] [] := fun K => rfl
    have cv : cvR (.slc 1 0 1 1) [upL.row, .row 1 [.int .u8 97]] = some (.slc 1 0 1 1) := rfl
    rw [rk, cv, Option.bind_some]
    refine (congrArg (fun x => Option.bind x _) (show fillB _ _ = some [(.int .i64 2), (.int .i64 0), (.int .i64 0), (.int .i64 0), (.int .i64 0), (.int .i64 0), (.int .i64 0), (.int .i64 0), (.int .i64 0), (.int .i64 0), (.bool false), .nils, .nils, (.int .i64 0), .nils, (.int .i64 0), .nils, .nils, .nils, .nils, .slc 1 0 1 1, .nils] from rfl)).trans ?_
    rw [Option.bind_some]
    have hfz : frzL [upL.row, .row 1 [.int .u8 97]] [upL.av, .agg [(.int .i64 2), (.int .i64 0), (.int .i64 0), (.int .i64 0), (.int .i64 0), (.int .i64 0), (.int .i64 0), (.int .i64 0), (.int .i64 0), (.int .i64 0), (.bool false), .nils, .nils, (.int .i64 0), .nils, (.int .i64 0), .nils, .nils, .nils, .nils, .slc 1 0 1 1, .nils]] = some [upL.av, cmdI.av] := by
      refine frzL_cons (frz_good _ _ (Nde.good upL)) ?_
      rfl
    have hk : killAll [upL.row, .row 1 [.int .u8 97]] (killsL [upL.av, .agg [(.int .i64 2), (.int .i64 0), (.int .i64 0), (.int .i64 0), (.int .i64 0), (.int .i64 0), (.int .i64 0), (.int .i64 0), (.int .i64 0), (.int .i64 0), (.bool false), .nils, .nils, (.int .i64 0), .nils, (.int .i64 0), .nils, .nils, .nils, .nils, .slc 1 0 1 1, .nils]]) = [upL.row, .dead] := by
      rw [show killsL [upL.av, .agg [(.int .i64 2), (.int .i64 0), (.int .i64 0), (.int .i64 0), (.int .i64 0), (.int .i64 0), (.int .i64 0), (.int .i64 0), (.int .i64 0), (.int .i64 0), (.bool false), .nils, .nils, (.int .i64 0), .nils, (.int .i64 0), .nils, .nils, .nils, .nils, .slc 1 0 1 1, .nils]] = [1] from by
        simp only [killsL, kills_good _ (Nde.good upL)]
        rfl]
      rfl
    have hg : goodL [upL.av, cmdI.av] = true := by simp only [goodL, Nde.good, Inp.good upL_in.m]; rfl
    have hcall : ∀ (K : AV → List AObj → List Nat → Option R3), callK (EV C) false n_raft_Step [upL.av, .agg [(.int .i64 2), (.int .i64 0), (.int .i64 0), (.int .i64 0), (.int .i64 0), (.int .i64 0), (.int .i64 0), (.int .i64 0), (.int .i64 0), (.int .i64 0), (.bool false), .nils, .nils, (.int .i64 0), .nils, (.int .i64 0), .nils, .nils, .nils, .nils, .slc 1 0 1 1, .nils]] [upL.row, .row 1 [.int .u8 97]] K = K c.res [upL.row, .dead] [] := fun K => by
      have hca : callA (EV C) false n_raft_Step [upL.av, .agg [(.int .i64 2), (.int .i64 0), (.int .i64 0), (.int .i64 0), (.int .i64 0), (.int .i64 0), (.int .i64 0), (.int .i64 0), (.int .i64 0), (.int .i64 0), (.bool false), .nils, .nils, (.int .i64 0), .nils, (.int .i64 0), .nils, .nils, .nils, .nils, .slc 1 0 1 1, .nils]] [upL.row, .row 1 [.int .u8 97]] = some (c.res, [upL.row, .dead], []) := by
        unfold callA
        rw [if_neg (by decide), hfz, Option.bind_some, if_pos (belL_good 0 _ hg), hst, Option.bind_some]
        rw [if_pos (by rfl), if_neg (by simp [Stp.res, AV.flat, flatL, Nde.av, Nde.cs, ints, ents, upL]; intro h; exact absurd h (by rw [hc]; decide)), hk]
      unfold callK; rw [hca]; rfl
    rw [hcall]
    unfold Stp.res
    simp -implicitDefEqProofs only [extA_0, extA_1, extA_2, Option.bind_some]
    have ex3 : extA (.tup [c.n.av, .lst (c.out.map Msg.av), .int .i64 c.num, .nili]) 3 = some .nili := rfl
    rw [ex3, Option.bind_some, new_agg0 (by simp) rfl]
    simp -implicitDefEqProofs only [List.length_cons, List.length_nil, Nat.reduceAdd, Nat.zero_add, List.cons_append, List.nil_append]
    have sk : ∀ (K : List AObj → List Nat → Option R3), stoK 29 (.ptr 2 1 0 0) c.n.av [upL.row, .dead, .row 29 [zN]] K = K [upL.row, .dead, c.n.row] [] := fun K => sto_node (cs := zN.cells) hsw.n rfl rfl
    refine (sk _).trans ?_
    have l3 : loadA false 1 (.ptr 0 1 0 3) [upL.row, .dead, c.n.row] = some (.int .i64 2) := rfl
    have l9 : loadA false 1 (.ptr 0 1 0 9) [upL.row, .dead, c.n.row] = some (.int .i64 1) := rfl
    have l9b : loadA false 1 (.ptr 2 1 0 9) [upL.row, .dead, c.n.row] = some (.int .i64 c.n.commit) := ld_fld (z := 29) (cs := c.n.cs) rfl rfl
    simp -implicitDefEqProofs only [eql_nn, Option.bind_some, splitK_t, offA_ptr, Nat.zero_add, l3, l9, l9b, eql_int, hcc.1, hcc.2, decide_true]
    exact endB_good rfl
  | m + 1, j, n, hj, h1, h2 => by
    have hn := h1 (by omega)
    have e3 : IntKind.i64.wrap ((j : Int) + 1) = ((j + 1 : Nat) : Int) := w64 (by omega) (by omega)
    have hin : StepIn n tickI := by rw [hn]; exact upN_in _
    have hs : soundN n = true := by
      rw [hn]
      rcases Nat.lt_or_ge j 9 with h | h
      · exact (up_t j h).1
      · have : j = 9 := by omega
        subst this; exact up_9.1
    have hsw := stepF_wf hin hs
    have hc1 : j + 1 < 10 → (stepF n tickI).n = upN ((j + 1 : Nat) : Int) := fun h => by rw [hn]; exact (up_t j (by omega)).2
    have hc2 : j + 1 = 10 → (stepF n tickI).n = upL := fun h => by
      have : j = 9 := by omega
      subst this; rw [hn]; exact up_9.2
    obtain ⟨c, hc⟩ : ∃ c, c = stepF n tickI := ⟨_, rfl⟩
    have hst : EV C n_raft_Step [n.av, tickI.av] [] = some (c.res, [], []) := by rw [Step_ok n tickI hin]; unfold stepA; rw [if_pos hs, hc]
    rw [← hc] at hsw hc1 hc2
    have w := hin.nw
    refine law19_up_J3_of ?_
    simp -implicitDefEqProofs only [lss_int, Option.bind_some, condK_dec]
    rw [if_pos (by omega), ld_node w rfl, Option.bind_some]
    refine (congrArg (fun x => Option.bind x _) (show fillB _ _ = some [(.int .i64 0), (.int .i64 0), (.int .i64 0), (.int .i64 0), (.int .i64 0), (.int .i64 0), (.int .i64 0), (.int .i64 0), (.int .i64 0), (.int .i64 0), (.bool false), .nils, .nils, (.int .i64 0), .nils, (.int .i64 0), .nils, .nils, .nils, .nils, .nils, .nils] from rfl)).trans ?_
    rw [Option.bind_some]
    have hcall : ∀ (K : AV → List AObj → List Nat → Option R3), callK (EV C) false n_raft_Step [n.av, .agg [(.int .i64 0), (.int .i64 0), (.int .i64 0), (.int .i64 0), (.int .i64 0), (.int .i64 0), (.int .i64 0), (.int .i64 0), (.int .i64 0), (.int .i64 0), (.bool false), .nils, .nils, (.int .i64 0), .nils, (.int .i64 0), .nils, .nils, .nils, .nils, .nils, .nils]] [n.row] K = K c.res [n.row] [] := fun K =>
      callK_nil (bs := [n.av, tickI.av]) (by simp only [killsL, kills_good _ (Nde.good n)]; rfl) (frzL_cons (frz_good _ _ (Nde.good n)) rfl) (by simp only [goodL, Nde.good, Inp.good hin.m]; rfl) hst
    rw [hcall]
    unfold Stp.res
    simp -implicitDefEqProofs only [extA_0, extA_1, extA_2, Option.bind_some]
    have ex3 : extA (.tup [c.n.av, .lst (c.out.map Msg.av), .int .i64 c.num, .nili]) 3 = some .nili := rfl
    rw [ex3, Option.bind_some, new_agg0 (by simp) rfl]
    simp -implicitDefEqProofs only [List.length_cons, List.length_nil, Nat.reduceAdd, Nat.zero_add, List.cons_append, List.nil_append]
    have sk : ∀ (K : List AObj → List Nat → Option R3), stoK 29 (.ptr 1 1 0 0) c.n.av [n.row, .row 29 [zN]] K = K [n.row, c.n.row] [] := fun K => sto_node (cs := zN.cells) hsw.n rfl rfl
    refine (sk _).trans ?_
    have sk2 : ∀ (K : List AObj → List Nat → Option R3), stoK 29 (.ptr 0 1 0 0) c.n.av [n.row, c.n.row] K = K [c.n.row, c.n.row] [] := fun K => sto_node (cs := n.cs) hsw.n rfl (Nde.len w)
    rw [neq_nn, Option.bind_some, condK_f, ld_node (l := 1) hsw.n rfl, Option.bind_some]
    refine (sk2 _).trans ?_
    simp -implicitDefEqProofs only [add_int, e3, Option.bind_some]
    exact up_J3 m (j + 1) c.n (by omega) hc1 hc2
theorem up_ok : EV C n_law19_up [] [] = some (.bool true, [], []) := by
  refine law19_up_of ?_
  have hl : LgOk ⟨0, 0, [1], []⟩ := ⟨by show ([1] : List Int).length < _; simp, by show ([] : List Ent).length < _; simp, fun e he => by cases he⟩
  dsimp only
  rw [litIn rfl]
  refine (congrArg (fun x => Option.bind x _) (show fillB _ _ = some [.int .i64 0, .int .i64 0, ints [1]] from rfl)).trans ?_
  rw [Option.bind_some]
  refine (congrArg (fun x => Option.bind x _) (show fillB _ _ = some [.int .i64 0, .int .i64 0, ints [1], .nils] from rfl)).trans ?_
  rw [Option.bind_some]
  have hcall : ∀ (K : AV → List AObj → List Nat → Option R3), callK (EV C) false n_raft_New [.int .i64 1, .int .i64 0, .int .i64 0, .agg [.int .i64 0, .int .i64 0, ints [1], .nils], .int .i64 0] [] K = K (.tup [(upN 0).av, .nili]) [] [] := fun K =>
    callK_nil (bs := [.int .i64 1, .int .i64 0, .int .i64 0, (Lg.av ⟨0, 0, [1], []⟩), .int .i64 0]) rfl rfl rfl (by
      rw [New_ok 1 0 0 ⟨0, 0, [1], []⟩ 0 hl]
      unfold newA'
      rw [up_0, if_pos (show soundN (upN 0) = true from by decide)])
  rw [hcall]
  simp -implicitDefEqProofs only [extA_0, extA_1, Option.bind_some]
  rw [new_agg0 (by simp) rfl]
  have sk : ∀ (K : List AObj → List Nat → Option R3), stoK 29 (.ptr 0 1 0 0) (upN 0).av [.row 29 [zN]] K = K [(upN 0).row] [] := fun K => sto_node (cs := zN.cells) ⟨rfl, rfl⟩ rfl rfl
  refine (sk _).trans ?_
  exact up_J3 10 0 (upN 0) rfl (fun _ => rfl) (fun h => by cases h)
end Go.Pm
namespace Go.Pm
open Go.Proofs
set_option linter.unusedVariables false
set_option linter.unusedSimpArgs false
theorem same17_J4 (l : List Int) (hl : l.length < 2^62) : ∀ (m i : Nat) (E : List Nat), i + m = l.length →
    ref17_Same_J4 0 (ints l) (ints l) (.int .i64 (i : Int)) [] E = some (.bool true, [], [])
  | 0, i, E, h => by
    refine ref17_Same_J4_of ?_
    simp -implicitDefEqProofs only [lenV_ints, lss_int, Option.bind_some, condK_dec]
    rw [if_neg (by omega)]
    exact endB_good rfl
  | m + 1, i, E, h => by
    refine ref17_Same_J4_of ?_
    have hi : i < l.length := by omega
    have e3 : IntKind.i64.wrap ((i : Int) + 1) = ((i + 1 : Nat) : Int) := w64 (by omega) (by omega)
    simp -implicitDefEqProofs only [lenV_ints, lss_int, Option.bind_some, condK_dec]
    rw [if_pos (by omega)]
    simp -implicitDefEqProofs only [ix_ints hi, ld_i, neq_int, decide_true, Bool.not_true, Option.bind_some, condK_f, add_int, e3]
    exact same17_J4 l hl m (i + 1) E (by omega)
theorem same17_ok (l : List Int) (hl : l.length < 2^62) : EV C n_ref17_Same [ints l, ints l] [] = some (.bool true, [], []) := by
  refine ref17_Same_of ?_
  simp -implicitDefEqProofs only [lenV_ints, neq_int, decide_true, Bool.not_true, Option.bind_some, condK_f]
  exact same17_J4 l hl l.length 0 [] (by omega)
theorem eqIs_self : ∀ l : List Int, eqIs (l.map i64) (l.map i64) = some true
  | [] => rfl
  | x :: l => by
    show (if IntKind.i64 = IntKind.i64 then (if x = x then eqIs (l.map i64) (l.map i64) else some false) else none) = _
    rw [if_pos rfl, if_pos rfl]; exact eqIs_self l
theorem eql_arr {l : List Int} (h : l.length = 8) : binA .eql (Go.TypeDesc.array 8 3) (cmpT Try.prog) false (.agg (l.map i64)) (.agg (l.map i64)) = some (.bool true) := by
  have hc : cmpT Try.prog 3 = true := by kernel_rfl
  show (eqI (Go.TypeDesc.array 8 3) (cmpT Try.prog) (l.map i64) (l.map i64)).map AV.bool = _
  unfold eqI
  dsimp only
  rw [if_pos ⟨hc, by simp [h], by simp [h]⟩, eqIs_self]; rfl
structure NdeOk (n : Nde) : Prop where
  w : n.wf
  m : n.log.mems.length < 2^62
  e : n.log.es.length < 2^62
  v : n.votes.length < 2^62
section
variable {n : Nde} {H : List AObj} {l : Nat}
theorem ld_nx (w : n.wf) (h : H[l]? = some n.row) : loadA true 8 (.ptr l 1 0 11) H = some (.agg (n.next.map i64)) := by
  rw [ld_aggp (cs := n.cs) h (by simp [Nde.cs, w.ln, w.lm])]
  have : n.cs.drop 11 = n.next.map i64 ++ (n.mtch.map i64 ++ [.int .i64 n.ticks, .int .i64 n.timeout]) := rfl
  rw [this, List.take_left' (by simp [w.ln])]
theorem ld_mt (w : n.wf) (h : H[l]? = some n.row) : loadA true 8 (.ptr l 1 0 19) H = some (.agg (n.mtch.map i64)) := by
  rw [ld_aggp (cs := n.cs) h (by simp [Nde.cs, w.ln, w.lm])]
  have : n.cs.drop 19 = n.mtch.map i64 ++ [.int .i64 n.ticks, .int .i64 n.timeout] := by
    have e : n.cs = ([.int .i64 n.id, .int .i64 n.term, .int .i64 n.voted, .int .i64 n.role, .int .i64 n.leader, .int .i64 n.log.index, .int .i64 n.log.term, ints n.log.mems, ents n.log.es, .int .i64 n.commit, ints n.votes] ++ n.next.map i64) ++ (n.mtch.map i64 ++ [.int .i64 n.ticks, .int .i64 n.timeout]) := by simp [Nde.cs]
    rw [e, List.drop_left' (by simp [w.ln])]
  rw [this, List.take_left' (by simp [w.lm])]
end
set_option maxHeartbeats 1000000 in
theorem same19_ok {n : Nde} (h : NdeOk n) : EV C n_ref19_Same [n.av, n.av] [] = some (.bool true, [], []) := by
  refine ref19_Same_of ?_
  have w := h.w
  dsimp only
  rw [new_nd w]
  simp -implicitDefEqProofs only [List.length_nil, List.nil_append]
  rw [new_nd w]
  have h0 : ([n.row, n.row] : List AObj)[0]? = some n.row := rfl
  have h1 : ([n.row, n.row] : List AObj)[1]? = some n.row := rfl
  simp -implicitDefEqProofs only [List.length_singleton, List.singleton_append, offA_ptr, Option.bind_some, Nat.zero_add, Nat.add_zero, ld_fld (j := 0) (v := .int .i64 n.id) h0 rfl, ld_fld (j := 0) (v := .int .i64 n.id) h1 rfl, ld_fld (j := 1) (v := .int .i64 n.term) h0 rfl, ld_fld (j := 1) (v := .int .i64 n.term) h1 rfl, ld_fld (j := 2) (v := .int .i64 n.voted) h0 rfl, ld_fld (j := 2) (v := .int .i64 n.voted) h1 rfl, ld_fld (j := 3) (v := .int .i64 n.role) h0 rfl, ld_fld (j := 3) (v := .int .i64 n.role) h1 rfl, ld_fld (j := 4) (v := .int .i64 n.leader) h0 rfl, ld_fld (j := 4) (v := .int .i64 n.leader) h1 rfl, ld_log h0, ld_log h1, eql_int, decide_true, splitK_t]
  rw [callK_ok (by simp [goodL]) (Same_ok n.log h.m h.e)]
  simp -implicitDefEqProofs only [offA_ptr, Option.bind_some, Nat.zero_add, Nat.add_zero, ld_fld (j := 9) (v := .int .i64 n.commit) h0 rfl, ld_fld (j := 9) (v := .int .i64 n.commit) h1 rfl, ld_fld (j := 10) (v := ints n.votes) h0 rfl, ld_fld (j := 10) (v := ints n.votes) h1 rfl, eql_int, decide_true, splitK_t]
  rw [callK_ok (by simp [goodL]) (same17_ok n.votes h.v)]
  simp -implicitDefEqProofs only [offA_ptr, Option.bind_some, Nat.zero_add, Nat.add_zero, ld_nx w h0, ld_nx w h1, ld_mt w h0, ld_mt w h1, eql_arr w.ln, eql_arr w.lm, ld_fld (j := 27) (v := .int .i64 n.ticks) h0 (nd_ticks w), ld_fld (j := 27) (v := .int .i64 n.ticks) h1 (nd_ticks w), ld_fld (j := 28) (v := .int .i64 n.timeout) h0 (nd_timeout w), ld_fld (j := 28) (v := .int .i64 n.timeout) h1 (nd_timeout w), eql_int, decide_true, splitK_t]
  exact endB_good rfl
end Go.Pm
namespace Go.Pm
open Go.Proofs
set_option linter.unusedVariables false
set_option linter.unusedSimpArgs false
theorem countK (a : Int) {β : Type} {H : List AObj} {K : AV → List AObj → List Nat → Option β} : callK (EV C) false n_ref19_count [.int .i64 a] H K = K (.bool (cntF a)) H [] := callK_ok (by simp [goodL, AV.good]) (count19_ok a)
theorem countD (a : Int) (H : List AObj) : callD (EV C) n_ref19_count [.int .i64 a] H = some (.bool (cntF a)) := callD_ok (by simp [goodL, AV.good]) (count19_ok a)
theorem rcheck_J15 (n : Nde) (hv : n.votes.length ≤ 2^60) : ∀ (m i : Nat) (E : List Nat), i + m = n.votes.length →
    ref19_Check_J15 0 (.ptr 0 1 0 0) (.int .i64 (i : Int)) [n.row] E = some (.bool (votesB (n.votes.take i) (n.votes.drop i)), [], [])
  | 0, i, E, hi => by
    refine ref19_Check_J15_of ?_
    have h : ([n.row] : List AObj)[0]? = some n.row := rfl
    simp -implicitDefEqProofs only [offA_ptr, Nat.zero_add, Option.bind_some, ld_fld (j := 10) (v := ints n.votes) h rfl, lenV_ints, lss_int, condK_dec]
    rw [if_neg (by omega), List.drop_eq_nil_of_le (by omega)]
    exact endB_good rfl
  | m + 1, i, E, hi => by
    refine ref19_Check_J15_of ?_
    have h : ([n.row] : List AObj)[0]? = some n.row := rfl
    have hlt : i < n.votes.length := by omega
    have e3 : IntKind.i64.wrap ((i : Int) + 1) = ((i + 1 : Nat) : Int) := w64 (by omega) (by omega)
    have tk : n.votes.take (i + 1) = n.votes.take i ++ [n.votes[i]] := List.take_succ_eq_append_getElem hlt
    simp -implicitDefEqProofs only [offA_ptr, Nat.zero_add, Option.bind_some, ld_fld (j := 10) (v := ints n.votes) h rfl, lenV_ints, lss_int, condK_dec]
    rw [if_pos (by omega)]
    simp -implicitDefEqProofs only [offA_ptr, Nat.zero_add, Option.bind_some, ld_fld (j := 10) (v := ints n.votes) h rfl, ix_ints hlt, ld_i, lss_int, gtr_int, splitK_dec]
    rw [List.drop_eq_getElem_cons hlt, votesB, ← tk]
    unfold inF
    by_cases h1 : n.votes[i] < 1
    · rw [if_pos h1, show decide (1 ≤ n.votes[i]) = false from decide_eq_false (by omega)]
      simp only [Bool.false_and]
      exact endB_good rfl
    · rw [if_neg h1, show decide (1 ≤ n.votes[i]) = true from decide_eq_true (by omega)]
      by_cases h2 : 7 < n.votes[i]
      · rw [if_pos h2, show decide (n.votes[i] ≤ 7) = false from decide_eq_false (by omega)]
        simp only [Bool.false_and, Bool.and_false]
        exact endB_good rfl
      · rw [if_neg h2, show decide (n.votes[i] ≤ 7) = true from decide_eq_true (by omega)]
        have hcd := callD_ok (H := [n.row]) (show goodL [ints (n.votes.take i), AV.int .i64 n.votes[i]] = true from by simp [goodL, AV.good]) (has17_ok (n.votes.take i) n.votes[i] (by simp; omega))
        rw [cut_ints (by omega), Option.bind_some, hcd, Option.bind_some]
        simp only [Bool.true_and]
        cases hh : hasF (n.votes.take i) n.votes[i] with
        | true => simp only [condK_t, Bool.not_true, Bool.false_and]; exact endB_good rfl
        | false =>
          simp -implicitDefEqProofs only [condK_f, Bool.not_false, Bool.true_and, add_int, Option.bind_some, e3]
          exact rcheck_J15 n hv m (i + 1) E (by omega)
theorem rcheck_J10 (n : Nde) (w : n.wf) (hv : n.votes.length ≤ 2^60) : ∀ (m i : Nat) (E : List Nat), i + m = 8 →
    ref19_Check_J10 0 (.ptr 0 1 0 0) (.int .i64 (i : Int)) [n.row] E = some (.bool (tabB n i m && votesB [] n.votes), [], [])
  | 0, i, E, hi => by
    refine ref19_Check_J10_of ?_
    simp -implicitDefEqProofs only [lss_int, Option.bind_some, condK_dec]
    rw [if_neg (by omega)]
    have := rcheck_J15 n hv n.votes.length 0 E (by omega)
    simpa [tabB] using this
  | m + 1, i, E, hi => by
    refine ref19_Check_J10_of ?_
    have h : ([n.row] : List AObj)[0]? = some n.row := rfl
    have h8 : i < 8 := by omega
    have e3 : IntKind.i64.wrap ((i : Int) + 1) = ((i + 1 : Nat) : Int) := w64 (by omega) (by omega)
    simp -implicitDefEqProofs only [lss_int, Option.bind_some, condK_dec]
    rw [if_pos (by omega), tabB]
    simp -implicitDefEqProofs only [offA_ptr, Nat.zero_add, Option.bind_some, arA_ptr h8, ld_fld h (nd_next' w h8), countK, not_bool]
    cases h1 : cntF (n.next.getD i 0) with
    | false => simp only [Bool.not_false, splitK_t, Bool.false_and]; exact endB_good rfl
    | true =>
      simp -implicitDefEqProofs only [Bool.not_true, splitK_f, Bool.true_and, offA_ptr, Nat.zero_add, Option.bind_some, arA_ptr h8, ld_fld h (nd_mtch' w h8), countK, not_bool]
      cases h2 : cntF (n.mtch.getD i 0) with
      | false => simp only [Bool.not_false, condK_t, Bool.false_and]; exact endB_good rfl
      | true =>
        simp -implicitDefEqProofs only [Bool.not_true, condK_f, Bool.true_and, add_int, Option.bind_some, e3]
        exact rcheck_J10 n w hv m (i + 1) _ (by omega)
set_option maxHeartbeats 4000000 in
theorem rCheck19_ok (n : Nde) (w : n.wf) (hv : n.votes.length ≤ 2^60) (hl : LgOk n.log) : EV C n_ref19_Check [n.av] [] = some (.bool (soundN n), [], []) := by
  refine ref19_Check_of ?_
  have h : ([n.row] : List AObj)[0]? = some n.row := rfl
  have F : ∀ (E : List Nat), soundN n = false → endB false false 0 (.bool false) [n.row] E = some (.bool (soundN n), [], []) := fun E hs => by rw [hs]; exact endB_good rfl
  have sf : ∀ (p : Prop), (soundN n = true → p) → ¬ p → soundN n = false := fun p h1 h2 => by
    cases hs : soundN n with
    | true => exact absurd (h1 hs) h2
    | false => rfl
  have spec : soundN n = true ↔ soundL n.log = true ∧ (1 ≤ n.id ∧ n.id ≤ 7) ∧ (termL n.log (lastL n.log) ≤ n.term ∧ n.term ≤ 1152921504606846976) ∧ (0 ≤ n.voted ∧ n.voted ≤ 7) ∧ (0 ≤ n.leader ∧ n.leader ≤ 7) ∧ (0 ≤ n.role ∧ n.role ≤ 2) ∧ (0 < n.term ∨ n.role = 0) ∧ (n.log.index ≤ n.commit ∧ n.commit ≤ lastL n.log) ∧ cntF n.ticks = true ∧ cntF n.timeout = true ∧ tabB n 0 8 = true ∧ votesB [] n.votes = true := by
    simp only [soundN, Bool.and_eq_true, Bool.or_eq_true, decide_eq_true_eq, inF_iff]
  dsimp only
  rw [new_nd w]
  simp -implicitDefEqProofs only [List.length_nil, List.nil_append, offA_ptr, Nat.zero_add, Option.bind_some, ld_log h]
  rw [callK_ok (by simp [goodL]) (rCheck_ok n.log hl.m (by have := hl.e; omega) hl.d)]
  cases hs : soundL n.log with
  | false =>
    simp -implicitDefEqProofs only [not_bool, Option.bind_some, Bool.not_false, splitK_t]
    exact F _ (sf _ (fun h => (spec.1 h).1) (by rw [hs]; decide))
  | true =>
    have hsm := sound_small hs
    have hh : hasL n.log (lastL n.log) = true := hasL_iff.2 (by unfold lastL; omega)
    have LK : ∀ (H : List AObj) (K : AV → List AObj → List Nat → Option R3), callK (EV C) false n_ref18_Last [n.log.av] H K = K (.int .i64 (lastL n.log)) H [] := fun H K => callK_ok (by simp [goodL]) (rLast_ok n.log hsm)
    have TD : ∀ H : List AObj, callD (EV C) n_ref18_Term [n.log.av, .int .i64 (lastL n.log)] H = some (.int .i64 (termL n.log (lastL n.log))) := fun H => callD_ok (by simp [goodL, AV.good]) (rTerm_ok n.log _ hsm hh)
    have tail : ∀ (E : List Nat), (0 < n.term ∨ n.role = 0) → (1 ≤ n.id ∧ n.id ≤ 7) → (0 ≤ n.voted ∧ n.voted ≤ 7) → (0 ≤ n.leader ∧ n.leader ≤ 7) → (0 ≤ n.role ∧ n.role ≤ 2) →
        ((loadA false 1 (.ptr 0 1 0 1) [n.row]).bind fun a40 => (callD (EV C) n_ref19_count [a40] [n.row]).bind fun a41 => (unA .not a41).bind fun a42 =>
          splitK a42 (endB false false 0 (.bool false) [n.row] E)
          ((loadA false 1 (.ptr 0 1 0 1) [n.row]).bind fun a44 => (loadA true 4 (.ptr 0 1 0 5) [n.row]).bind fun a46 => (callD (EV C) n_ref18_Term [a46, .int .i64 (lastL n.log)] [n.row]).bind fun a47 =>
          (binA .lss (Go.TypeDesc.int Go.IntKind.i64) (cmpT Try.prog) false a44 a47).bind fun a48 =>
          splitK a48 (endB false false 0 (.bool false) [n.row] E)
            ((loadA false 1 (.ptr 0 1 0 9) [n.row]).bind fun a50 => (loadA false 1 (.ptr 0 1 0 5) [n.row]).bind fun a54 =>
            (binA .lss (Go.TypeDesc.int Go.IntKind.i64) (cmpT Try.prog) false a50 a54).bind fun a55 =>
            splitK a55 (endB false false 0 (.bool false) [n.row] E)
              ((loadA false 1 (.ptr 0 1 0 9) [n.row]).bind fun a57 =>
              (binA .gtr (Go.TypeDesc.int Go.IntKind.i64) (cmpT Try.prog) false a57 (.int .i64 (lastL n.log))).bind fun a58 =>
              splitK a58 (endB false false 0 (.bool false) [n.row] E)
                ((loadA false 1 (.ptr 0 1 0 27) [n.row]).bind fun a60 => (callD (EV C) n_ref19_count [a60] [n.row]).bind fun a61 => (unA .not a61).bind fun a62 =>
                splitK a62 (endB false false 0 (.bool false) [n.row] E)
                  ((loadA false 1 (.ptr 0 1 0 28) [n.row]).bind fun a64 => (callD (EV C) n_ref19_count [a64] [n.row]).bind fun a65 => (unA .not a65).bind fun a66 =>
                  condK a66 (endB false false 0 (.bool false) [n.row] E)
                    (ref19_Check_J10 0 (.ptr 0 1 0 0) (.int .i64 0) [n.row] E))))))) = some (.bool (soundN n), [], []) := fun E ht hi hv0 hl0 hr0 => by
      simp -implicitDefEqProofs only [ld_fld (j := 1) (v := .int .i64 n.term) h rfl, countD, Option.bind_some, not_bool, ld_log h, TD, lss_int, splitK_dec]
      cases c1 : cntF n.term with
      | false =>
        simp only [Bool.not_false, splitK_t]
        refine F _ (sf _ (fun h => (spec.1 h).2.2.1) fun h2 => ?_)
        have : ¬ cntF n.term = true := by rw [c1]; decide
        rw [cntF_iff] at this
        have htl : 0 ≤ termL n.log (lastL n.log) := by
          have sl := hs
          simp only [soundL, Bool.and_eq_true, decide_eq_true_eq] at sl
          rw [termL_last]
          cases hg : n.log.es.getLast? with
          | none => show 0 ≤ n.log.term; omega
          | some e =>
            show 0 ≤ e.term
            have := chk_ge sl.2.2 e (List.mem_of_getLast? hg)
            omega
        have hmo : most = 1152921504606846976 := rfl
        omega
      | true =>
        simp -implicitDefEqProofs only [Bool.not_true, splitK_f]
        have c1' := cntF_iff.1 c1
        have hmo : most = 1152921504606846976 := rfl
        by_cases c2 : n.term < termL n.log (lastL n.log)
        · rw [if_pos c2]
          exact F _ (sf _ (fun h => (spec.1 h).2.2.1) (by omega))
        · rw [if_neg c2]
          simp -implicitDefEqProofs only [ld_fld (j := 9) (v := .int .i64 n.commit) h rfl, ld_fld (j := 5) (v := .int .i64 n.log.index) h rfl, Option.bind_some, lss_int, gtr_int, splitK_dec]
          by_cases c3 : n.commit < n.log.index
          · rw [if_pos c3]
            exact F _ (sf _ (fun h => (spec.1 h).2.2.2.2.2.2.2.1) (by omega))
          · rw [if_neg c3]
            by_cases c4 : lastL n.log < n.commit
            · rw [if_pos c4]
              exact F _ (sf _ (fun h => (spec.1 h).2.2.2.2.2.2.2.1) (by omega))
            · rw [if_neg c4]
              simp -implicitDefEqProofs only [ld_fld (j := 27) (v := .int .i64 n.ticks) h (nd_ticks w), ld_fld (j := 28) (v := .int .i64 n.timeout) h (nd_timeout w), Option.bind_some, countD, not_bool]
              cases c5 : cntF n.ticks with
              | false =>
                simp only [Bool.not_false, splitK_t]
                exact F _ (sf _ (fun h => (spec.1 h).2.2.2.2.2.2.2.2.1) (by rw [c5]; decide))
              | true =>
                simp -implicitDefEqProofs only [Bool.not_true, splitK_f]
                cases c6 : cntF n.timeout with
                | false =>
                  simp only [Bool.not_false, condK_t]
                  exact F _ (sf _ (fun h => (spec.1 h).2.2.2.2.2.2.2.2.2.1) (by rw [c6]; decide))
                | true =>
                  simp -implicitDefEqProofs only [Bool.not_true, condK_f]
                  refine (rcheck_J10 n w hv 8 0 E rfl).trans ?_
                  have : soundN n = (tabB n 0 8 && votesB [] n.votes) := by
                    rw [Bool.eq_iff_iff, spec, Bool.and_eq_true]
                    exact ⟨fun h => h.2.2.2.2.2.2.2.2.2.2, fun h => ⟨hs, hi, ⟨by omega, by omega⟩, hv0, hl0, hr0, ht, ⟨by omega, by omega⟩, c5, c6, h⟩⟩
                  rw [this]
    simp -implicitDefEqProofs only [not_bool, Option.bind_some, Bool.not_true, splitK_f, offA_ptr, Nat.zero_add, Nat.add_zero, ld_fld (j := 0) (v := .int .i64 n.id) h rfl, ld_fld (j := 2) (v := .int .i64 n.voted) h rfl, ld_fld (j := 4) (v := .int .i64 n.leader) h rfl, ld_fld (j := 3) (v := .int .i64 n.role) h rfl, lss_int, gtr_int, splitK_dec, condK_dec]
    by_cases c1 : n.id < 1
    · rw [if_pos c1]; exact F _ (sf _ (fun h => (spec.1 h).2.1) (by omega))
    · rw [if_neg c1]
      by_cases c2 : 7 < n.id
      · rw [if_pos c2]; exact F _ (sf _ (fun h => (spec.1 h).2.1) (by omega))
      · rw [if_neg c2]
        by_cases c3 : n.voted < 0
        · rw [if_pos c3]; exact F _ (sf _ (fun h => (spec.1 h).2.2.2.1) (by omega))
        · rw [if_neg c3]
          by_cases c4 : 7 < n.voted
          · rw [if_pos c4]; exact F _ (sf _ (fun h => (spec.1 h).2.2.2.1) (by omega))
          · rw [if_neg c4]
            by_cases c5 : n.leader < 0
            · rw [if_pos c5]; exact F _ (sf _ (fun h => (spec.1 h).2.2.2.2.1) (by omega))
            · rw [if_neg c5]
              by_cases c6 : 7 < n.leader
              · rw [if_pos c6]; exact F _ (sf _ (fun h => (spec.1 h).2.2.2.2.1) (by omega))
              · rw [if_neg c6]
                by_cases c7 : n.role < 0
                · rw [if_pos c7]; exact F _ (sf _ (fun h => (spec.1 h).2.2.2.2.2.1) (by omega))
                · rw [if_neg c7]
                  by_cases c8 : 2 < n.role
                  · rw [if_pos c8]; exact F _ (sf _ (fun h => (spec.1 h).2.2.2.2.2.1) (by omega))
                  · rw [if_neg c8]
                    by_cases c9 : 0 < n.role
                    · rw [if_pos c9]
                      simp -implicitDefEqProofs only [ld_fld (j := 1) (v := .int .i64 n.term) h rfl, Option.bind_some, eql_int, condK_dec]
                      by_cases c10 : n.term = 0
                      · rw [if_pos c10]; exact F _ (sf _ (fun h => (spec.1 h).2.2.2.2.2.2.1) (by omega))
                      · rw [if_neg c10]
                        simp -implicitDefEqProofs only [ld_log h, LK, offA_ptr, Option.bind_some, Nat.zero_add, Nat.add_zero, List.append_nil, List.nil_append]
                        by_cases c11 : 0 < n.term
                        · have := tail [] (.inl c11) ⟨by omega, by omega⟩ ⟨by omega, by omega⟩ ⟨by omega, by omega⟩ ⟨by omega, by omega⟩
                          simp -implicitDefEqProofs only [ld_fld (j := 1) (v := .int .i64 n.term) h rfl, ld_log h, Option.bind_some, countD, not_bool, TD] at this ⊢
                          exact this
                        · simp -implicitDefEqProofs only [ld_fld (j := 1) (v := .int .i64 n.term) h rfl, Option.bind_some, countD, not_bool]
                          have c1 : cntF n.term = false := by
                            cases hc : cntF n.term with
                            | true => have := cntF_iff.1 hc; omega
                            | false => rfl
                          rw [c1]
                          simp only [Bool.not_false, splitK_t]
                          exact F _ (sf _ (fun h => (spec.1 h).2.2.2.2.2.2.1) (by omega))
                    · rw [if_neg c9]
                      simp -implicitDefEqProofs only [ld_log h, LK, offA_ptr, Option.bind_some, Nat.zero_add, Nat.add_zero, List.append_nil, List.nil_append]
                      have := tail [] (.inr (by omega)) ⟨by omega, by omega⟩ ⟨by omega, by omega⟩ ⟨by omega, by omega⟩ ⟨by omega, by omega⟩
                      simp -implicitDefEqProofs only [ld_fld (j := 1) (v := .int .i64 n.term) h rfl, ld_log h, Option.bind_some, countD, not_bool, TD] at this ⊢
                      exact this
end Go.Pm
namespace Go.Pm
open Go.Proofs
set_option linter.unusedVariables false
set_option linter.unusedSimpArgs false
set_option maxHeartbeats 1000000 in
theorem rNew_ok (id term voted : Int) (l : Lg) (draw : Int) (hl : LgOk l) : EV C n_ref19_New [.int .i64 id, .int .i64 term, .int .i64 voted, l.av, .int .i64 draw] [] = some (.tup [(if soundN (newN id term voted l draw) = true then newN id term voted l draw else noNde).av, .bool (soundN (newN id term voted l draw))], [], []) := by
  refine ref19_New_of ?_
  have w := newN_wf id term voted l draw
  dsimp only
  rw [new_lg0]
  simp -implicitDefEqProofs only [List.length_nil, List.nil_append]
  rw [new_agg0 (by simp) rfl]
  simp -implicitDefEqProofs only [List.length_singleton, List.singleton_append]
  have la : ∀ X : List AObj, loadA true 4 (.ptr 0 1 0 0) (.row 4 [l.av] :: X) = some l.av := fun X => rfl
  have li : ∀ X : List AObj, loadA false 1 (.ptr 0 1 0 0) (.row 4 [l.av] :: X) = some (.int .i64 l.index) := fun X => rfl
  simp -implicitDefEqProofs only [la, li, offA_ptr, Option.bind_some, Nat.zero_add, callD_ok (show goodL [AV.int .i64 draw] = true from rfl) (rtimeout_ok draw)]
  refine (congrArg (fun x => Option.bind x _) (show fillB _ _ = some (newC id term voted l draw) from rfl)).trans ?_
  rw [Option.bind_some, new_agg0 (by simp) rfl]
  have sk : ∀ (K : List AObj → List Nat → Option R3), stoK 29 (.ptr 2 1 0 0) (.agg (newC id term voted l draw)) [.row 4 [l.av], .row 29 [zN], .row 29 [zN]] K = K [.row 4 [l.av], .row 29 [zN], .row 29 [.agg (newC id term voted l draw)]] [] := fun K => by
    have h : ([.row 4 [l.av], .row 29 [zN], .row 29 [zN]] : List AObj)[2]? = some (.row 29 [.agg zN.cells]) := rfl
    rw [sto_row (n := 29) h rfl rfl (by simp [AV.cells, newC, belL, AV.bel, bel_good _ _ (good_ints _), bel_good _ _ (good_ents _)]) (by decide)]
    rfl
  have lk : loadA true 29 (.ptr 2 1 0 0) [.row 4 [l.av], .row 29 [zN], .row 29 [.agg (newC id term voted l draw)]] = some (.agg (newC id term voted l draw)) := rfl
  have ck : ∀ (H : List AObj) (K : AV → List AObj → List Nat → Option R3), callK (EV C) false n_ref19_Check [.agg (newC id term voted l draw)] H K = K (.bool (soundN (newN id term voted l draw))) H [] := fun H K =>
    callK_nil (bs := [(newN id term voted l draw).av]) rfl rfl (by simp [goodL, Nde.good]) (rCheck19_ok _ w (by show ([] : List Int).length ≤ _; simp) hl)
  simp -implicitDefEqProofs only [List.length_cons, List.length_nil, Nat.reduceAdd, Nat.zero_add, List.cons_append, List.nil_append]
  rw [drawK_t (by rfl), drawK_t (by rfl), drawK_True]
  refine (sk _).trans ?_
  rw [lk, Option.bind_some, ck]
  cases hs : soundN (newN id term voted l draw) with
  | true =>
    simp -implicitDefEqProofs only [if_true, not_bool, Bool.not_true, Option.bind_some, condK_f, lk]
    have s2 : ∀ (K : List AObj → List Nat → Option R3), stoK 29 (.ptr 1 1 0 0) (.agg (newC id term voted l draw)) [.row 4 [l.av], .row 29 [zN], .row 29 [.agg (newC id term voted l draw)]] K = K [.row 4 [l.av], .row 29 [.agg (newC id term voted l draw)], .row 29 [.agg (newC id term voted l draw)]] [] := fun K => by
      have h : ([.row 4 [l.av], .row 29 [zN], .row 29 [.agg (newC id term voted l draw)]] : List AObj)[1]? = some (.row 29 [.agg zN.cells]) := rfl
      rw [sto_row (n := 29) h rfl rfl (by simp [AV.cells, newC, belL, AV.bel, bel_good _ _ (good_ints _), bel_good _ _ (good_ents _)]) (by decide)]
      rfl
    rw [s2]
    exact endB_frz (u := .tup [(newN id term voted l draw).av, .bool true]) rfl (by simp [AV.good, goodL, Nde.good])
  | false =>
    simp -implicitDefEqProofs only [Bool.false_eq_true, if_false, not_bool, Bool.not_false, Option.bind_some, condK_t]
    refine (congrArg (fun x => Option.bind x _) (show fillB _ _ = some zN.cells from rfl)).trans ?_
    rw [Option.bind_some]
    have s2 : ∀ (K : List AObj → List Nat → Option R3), stoK 29 (.ptr 1 1 0 0) (.agg zN.cells) [.row 4 [l.av], .row 29 [zN], .row 29 [.agg (newC id term voted l draw)]] K = K [.row 4 [l.av], .row 29 [zN], .row 29 [.agg (newC id term voted l draw)]] [] := fun K => rfl
    refine (s2 _).trans ?_
    exact endB_frz (u := .tup [noNde.av, .bool false]) rfl rfl
theorem light_ok {g : Lg} (h : lightL g = true) : LgOk g ∧ g.es.length ≤ 200 ∧ g.mems.length ≤ 100 := by
  simp only [lightL, Bool.and_eq_true, decide_eq_true_eq, List.all_eq_true] at h
  refine ⟨⟨by omega, by omega, fun e he => ?_⟩, h.1, h.2.1⟩
  have := h.2.2 e he
  omega
theorem noNde_ok : NdeOk noNde := ⟨⟨rfl, rfl⟩, by show ([] : List Int).length < _; simp, by show ([] : List Ent).length < _; simp, by show ([] : List Int).length < _; simp⟩
set_option maxHeartbeats 1000000 in
theorem RaftNew_law (id term voted : Int) (l : Lg) (draw : Int) : EV C n_law19_RaftNew [.int .i64 id, .int .i64 term, .int .i64 voted, l.av, .int .i64 draw] [] = some (.bool true, [], []) := by
  refine law19_RaftNew_of ?_
  dsimp only
  rw [new_lg0]
  simp -implicitDefEqProofs only [List.length_nil, List.nil_append]
  have la : ∀ X : List AObj, loadA true 4 (.ptr 0 1 0 0) (.row 4 [l.av] :: X) = some l.av := fun X => rfl
  have upK : ∀ (H : List AObj) (K : AV → List AObj → List Nat → Option R3), callK (EV C) false n_law19_up [] H K = K (.bool true) H [] := fun H K => callK_ok rfl up_ok
  simp -implicitDefEqProofs only [upK, la, Option.bind_some, callK_ok (show goodL [l.av] = true from by simp [goodL]) (Light_ok l), not_bool]
  cases hli : lightL l with
  | false =>
    simp -implicitDefEqProofs only [Bool.not_false, condK_t]
    exact endB_good rfl
  | true =>
    have hl := light_ok hli
    have w := newN_wf id term voted l draw
    have hg : goodL [AV.int .i64 id, .int .i64 term, .int .i64 voted, l.av, .int .i64 draw] = true := by simp [goodL, AV.good]
    have hN : NdeOk (newN id term voted l draw) := ⟨w, hl.1.m, by have := hl.1.e; show l.es.length < _; omega, by show ([] : List Int).length < _; simp⟩
    simp -implicitDefEqProofs only [Bool.not_true, condK_f, la, Option.bind_some, callK_ok hg (New_ok id term voted l draw hl.1)]
    unfold newA'
    cases hs : soundN (newN id term voted l draw) with
    | true =>
      have rK := fun (H : List AObj) (K : AV → List AObj → List Nat → Option R3) => callK_ok (H := H) (K := K) hg (rNew_ok id term voted l draw hl.1)
      rw [hs] at rK
      simp -implicitDefEqProofs only [if_true] at rK
      simp -implicitDefEqProofs only [if_true, extA_0, extA_1, Option.bind_some]
      rw [new_agg0 (by simp) rfl]
      have sk : ∀ (K : List AObj → List Nat → Option R3), stoK 29 (.ptr 1 1 0 0) (newN id term voted l draw).av [.row 4 [l.av], .row 29 [zN]] K = K [.row 4 [l.av], (newN id term voted l draw).row] [] := fun K => sto_node (cs := zN.cells) w rfl rfl
      refine (sk _).trans ?_
      simp -implicitDefEqProofs only [la, Option.bind_some, rK, extA_0, extA_1]
      rw [new_agg0 (by simp) rfl]
      have sk2 : ∀ (K : List AObj → List Nat → Option R3), stoK 29 (.ptr 2 1 0 0) (newN id term voted l draw).av [.row 4 [l.av], (newN id term voted l draw).row, .row 29 [zN]] K = K [.row 4 [l.av], (newN id term voted l draw).row, (newN id term voted l draw).row] [] := fun K => sto_node (cs := zN.cells) w rfl rfl
      refine (sk2 _).trans ?_
      have e1 : binA .eql (Go.TypeDesc.interface #[("Error", 139)]) (cmpT Try.prog) false .nili .nili = none := rfl
      simp -implicitDefEqProofs only [not_bool, Bool.not_true, Option.bind_some, condK_f, splitK_t, eql_nn]
      have l1 : loadA true 29 (.ptr 1 1 0 0) [.row 4 [l.av], (newN id term voted l draw).row, (newN id term voted l draw).row] = some (newN id term voted l draw).av := ld_node w rfl
      have l2 : loadA true 29 (.ptr 2 1 0 0) [.row 4 [l.av], (newN id term voted l draw).row, (newN id term voted l draw).row] = some (newN id term voted l draw).av := ld_node w rfl
      refine (congrArg (fun x => Option.bind x _) l1).trans ?_
      rw [Option.bind_some]
      refine (congrArg (fun x => Option.bind x _) l2).trans ?_
      rw [Option.bind_some, callK_ok (by simp [goodL, Nde.good]) (same19_ok hN)]
      exact endB_good rfl
    | false =>
      have rK := fun (H : List AObj) (K : AV → List AObj → List Nat → Option R3) => callK_ok (H := H) (K := K) hg (rNew_ok id term voted l draw hl.1)
      rw [hs] at rK
      simp -implicitDefEqProofs only [Bool.false_eq_true, if_false] at rK
      simp -implicitDefEqProofs only [Bool.false_eq_true, if_false, extA_0, extA_1, Option.bind_some]
      rw [new_agg0 (by simp) rfl]
      have sk : ∀ (K : List AObj → List Nat → Option R3), stoK 29 (.ptr 1 1 0 0) noNde.av [.row 4 [l.av], .row 29 [zN]] K = K [.row 4 [l.av], noNde.row] [] := fun K => sto_node (cs := zN.cells) ⟨rfl, rfl⟩ rfl rfl
      refine (sk _).trans ?_
      simp -implicitDefEqProofs only [la, Option.bind_some, rK, extA_0, extA_1]
      rw [new_agg0 (by simp) rfl]
      have sk2 : ∀ (K : List AObj → List Nat → Option R3), stoK 29 (.ptr 2 1 0 0) noNde.av [.row 4 [l.av], noNde.row, .row 29 [zN]] K = K [.row 4 [l.av], noNde.row, noNde.row] [] := fun K => sto_node (cs := zN.cells) ⟨rfl, rfl⟩ rfl rfl
      refine (sk2 _).trans ?_
      have e1 : binA .eql (Go.TypeDesc.interface #[("Error", 139)]) (cmpT Try.prog) false (codeA 3) (.ifc t_api_Code (.int .i64 3)) = some (.bool true) := by kernel_rfl
      simp -implicitDefEqProofs only [not_bool, Bool.not_false, Option.bind_some, condK_t, splitK_t, e1]
      have l1 : loadA true 29 (.ptr 1 1 0 0) [.row 4 [l.av], noNde.row, noNde.row] = some noNde.av := rfl
      refine (congrArg (fun x => Option.bind x _) l1).trans ?_
      rw [Option.bind_some]
      refine (congrArg (fun x => Option.bind x _) (show fillB _ _ = some zN.cells from rfl)).trans ?_
      rw [Option.bind_some]
      rw [callK_nil (bs := [noNde.av, noNde.av]) rfl rfl rfl (same19_ok noNde_ok)]
      exact endB_good rfl
end Go.Pm
namespace Go.Pm
open Go.Proofs
set_option linter.unusedVariables false
set_option linter.unusedSimpArgs false
theorem C_I : ∀ f F a H r, C.I f = some F → F a H = some r → SpecR C.P C.G f a H r := clone_ok (C0 := C0) (fun f => rfl)
theorem choose_map {α β : Type} {f : β → AV} {g : α → AV} : ∀ {l : List α}, (∀ a ∈ l, ∃ b, g a = f b) → ∃ l' : List β, l'.length = l.length ∧ l.map g = l'.map f
  | [], _ => ⟨[], rfl, rfl⟩
  | a :: l, h => by
    obtain ⟨b, hb⟩ := h a (by simp)
    obtain ⟨l', h1, h2⟩ := choose_map (l := l) fun x hx => h x (List.mem_cons_of_mem _ hx)
    exact ⟨b :: l', by simp [h1], by simp [hb, h2]⟩
theorem ty_int {B : Nat} {P : Program} {k : IntKind} {f : Nat} {cs : List AV} {t : TypeId} (ht : P.underlying t = some (.int k)) (h : tyC P B f t cs) : ∃ n, cs = [.int k n] ∧ k.min ≤ n ∧ n ≤ k.max := by
  cases f with
  | zero => simp [tyC] at h
  | succ f =>
    simp only [tyC, ht] at h
    obtain ⟨n, h1, h2, h3⟩ := h
    exact ⟨n, h1, h2, h3⟩
theorem ty_u8 {B : Nat} {P : Program} {f : Nat} {cs : List AV} {t : TypeId} (ht : P.underlying t = some (.int .u8)) (h : tyC P B f t cs) : ∃ b : UInt8, cs = [u8 b] := by
  obtain ⟨n, rfl, h1, h2⟩ := ty_int ht h
  refine ⟨UInt8.ofNat n.toNat, ?_⟩
  have a1 : IntKind.u8.min = 0 := rfl
  have a2 : IntKind.u8.max = 255 := rfl
  rw [a1] at h1; rw [a2] at h2
  rw [u8_nat]
  congr 2
  omega
theorem ty_slice {B : Nat} {P : Program} {α : Type} {g : α → AV} {f : Nat} {cs : List AV} {t e : TypeId} (ht : P.underlying t = some (.slice e)) (h : tyC P B f t cs) (hel : ∀ f cs, tyC P B f e cs → ∃ a, mkE (agT P e) cs = g a) :
    ∃ l : List α, cs = [.lst (l.map g)] ∧ l.length * P.bytesOf e ≤ B := by
  cases f with
  | zero => simp [tyC] at h
  | succ f =>
    simp only [tyC, ht] at h
    obtain ⟨ess, rfl, h1, h2⟩ := h
    obtain ⟨l, h3, h4⟩ := choose_map (f := g) (g := mkE (agT P e)) (l := ess) fun a ha => hel f a (h2 a ha).1
    exact ⟨l, by rw [h4], by rw [h3]; exact h1⟩
theorem ty_struct {B : Nat} {P : Program} {f : Nat} {cs : List AV} {t : TypeId} {fs : Array Field} (ht : P.underlying t = some (.struct fs)) (h : tyC P B f t cs) :
    ∃ (f' : Nat) (css : List (List AV)), cs = css.flatten ∧ forall2 (fun (g : Field) cs => tyC P B f' g.type cs ∧ cs.length = P.cellsOf g.type) fs.toList css := by
  cases f with
  | zero => simp [tyC] at h
  | succ f =>
    simp only [tyC, ht] at h
    obtain ⟨css, h1, h2⟩ := h
    exact ⟨f, css, h1, h2⟩
theorem agT_f {P : Program} {t : TypeId} {d : TypeDesc} (h : P.underlying t = some d) (hs : (match d with | .struct _ | .array _ _ => true | _ => false) = false) : agT P t = false := by
  unfold agT; rw [h]; cases d <;> simp_all
theorem forall2_1 {α β : Type} {p : α → β → Prop} {a : α} {xs : List α} {bs : List β} (h : forall2 p (a :: xs) bs) : ∃ b bs', bs = b :: bs' ∧ p a b ∧ forall2 p xs bs' := by
  cases bs with
  | nil => exact h.elim
  | cons b bs => exact ⟨b, bs, rfl, h.1, h.2⟩
theorem forall2_0 {α β : Type} {p : α → β → Prop} {bs : List β} (h : forall2 p [] bs) : bs = [] := by
  cases bs with
  | nil => rfl
  | cons b bs => exact h.elim
variable {B : Nat} {f : Nat} {cs : List AV}
theorem ty_bytes (h : tyC Try.prog B f 42 cs) : ∃ l : List UInt8, cs = [bys l] ∧ l.length ≤ B := by
  obtain ⟨l, h1, h2⟩ := ty_slice (g := u8) Try.underlying42 h fun f cs h => by
    obtain ⟨b, rfl⟩ := ty_u8 Try.underlying5 h
    exact ⟨b, by rw [agT_f Try.underlying5 rfl]; rfl⟩
  rw [show Try.prog.bytesOf 5 = 1 from by kernel_rfl] at h2
  exact ⟨l, h1, by omega⟩
theorem ty_i64 (h : tyC Try.prog B f 3 cs) : ∃ n, cs = [.int .i64 n] := by
  obtain ⟨n, h1, _⟩ := ty_int Try.underlying3 h
  exact ⟨n, h1⟩
theorem ty_ints (h : tyC Try.prog B f 22 cs) : ∃ l : List Int, cs = [ints l] ∧ l.length * 8 ≤ B := by
  obtain ⟨l, h1, h2⟩ := ty_slice (g := i64) Try.underlying22 h fun f cs h => by
    obtain ⟨n, rfl⟩ := ty_i64 h
    exact ⟨n, by rw [agT_f Try.underlying3 rfl]; rfl⟩
  rw [show Try.prog.bytesOf 3 = 8 from by kernel_rfl] at h2
  exact ⟨l, h1, h2⟩
theorem ty_ent (h : tyC Try.prog B f 81 cs) : ∃ e : Ent, cs = [.int .i64 e.term, .int .i64 e.kind, bys e.data] ∧ e.data.length ≤ B := by
  obtain ⟨f', css, rfl, h2⟩ := ty_struct Try.underlying81 h
  obtain ⟨c1, _, rfl, ⟨k1, _⟩, h2⟩ := forall2_1 h2
  obtain ⟨c2, _, rfl, ⟨k2, _⟩, h2⟩ := forall2_1 h2
  obtain ⟨c3, _, rfl, ⟨k3, _⟩, h2⟩ := forall2_1 h2
  obtain rfl := forall2_0 h2
  obtain ⟨t, rfl⟩ := ty_i64 k1
  obtain ⟨k, rfl⟩ := ty_i64 k2
  obtain ⟨d, rfl, hd⟩ := ty_bytes k3
  exact ⟨⟨t, k, d⟩, rfl, hd⟩
theorem ty_ents (h : tyC Try.prog B f 25 cs) : ∃ l : List Ent, cs = [ents l] ∧ l.length * 40 ≤ B ∧ ∀ e ∈ l, e.data.length ≤ B := by
  cases f with
  | zero => simp [tyC] at h
  | succ f =>
    simp only [tyC, Try.underlying25] at h
    obtain ⟨ess, rfl, h1, h2⟩ := h
    have : ∀ (ess : List (List AV)), (∀ c ∈ ess, tyC Try.prog B f 81 c) → ∃ l : List Ent, ess.map (mkE (agT Try.prog 81)) = l.map Ent.av ∧ l.length = ess.length ∧ ∀ e ∈ l, e.data.length ≤ B := by
      intro ess
      induction ess with
      | nil => intro _; exact ⟨[], rfl, rfl, fun e he => by cases he⟩
      | cons c ess ih =>
        intro h
        obtain ⟨e, rfl, he⟩ := ty_ent (h c (by simp))
        obtain ⟨l, h1, h2, h3⟩ := ih fun x hx => h x (List.mem_cons_of_mem _ hx)
        refine ⟨e :: l, ?_, by simp [h2], fun x hx => ?_⟩
        · have ha : agT Try.prog 81 = true := by kernel_rfl
          rw [ha] at h1
          simp only [List.map_cons, ha, h1]; rfl
        · rcases List.mem_cons.1 hx with rfl | hx
          · exact he
          · exact h3 x hx
    obtain ⟨l, h4, h5, h6⟩ := this ess fun c hc => (h2 c hc).1
    rw [show Try.prog.bytesOf 81 = 40 from by kernel_rfl] at h1
    exact ⟨l, by rw [h4]; rfl, by omega, h6⟩
structure LgB (B : Nat) (g : Lg) : Prop where
  m : g.mems.length * 8 ≤ B
  e : g.es.length * 40 ≤ B
  d : ∀ e ∈ g.es, e.data.length ≤ B
theorem ty_lgc (h : tyC Try.prog B f 27 cs) : ∃ g : Lg, cs = [.int .i64 g.index, .int .i64 g.term, ints g.mems, ents g.es] ∧ LgB B g := by
  obtain ⟨f', css, rfl, h2⟩ := ty_struct Try.underlying27 h
  obtain ⟨c1, _, rfl, ⟨k1, _⟩, h2⟩ := forall2_1 h2
  obtain ⟨c2, _, rfl, ⟨k2, _⟩, h2⟩ := forall2_1 h2
  obtain rfl := forall2_0 h2
  obtain ⟨f2, css, rfl, h3⟩ := ty_struct Try.underlying24 k1
  obtain ⟨d1, _, rfl, ⟨j1, _⟩, h3⟩ := forall2_1 h3
  obtain ⟨d2, _, rfl, ⟨j2, _⟩, h3⟩ := forall2_1 h3
  obtain ⟨d3, _, rfl, ⟨j3, _⟩, h3⟩ := forall2_1 h3
  obtain rfl := forall2_0 h3
  obtain ⟨i, rfl⟩ := ty_i64 j1
  obtain ⟨t, rfl⟩ := ty_i64 j2
  obtain ⟨m, rfl, hm⟩ := ty_ints j3
  obtain ⟨es, rfl, h5, h6⟩ := ty_ents k2
  exact ⟨⟨i, t, m, es⟩, rfl, ⟨hm, h5, h6⟩⟩
theorem ty_lg {a : AV} (e : a = mkE (agT Try.prog 27) cs) (h : tyC Try.prog B f 27 cs) : ∃ g : Lg, a = g.av ∧ LgB B g := by
  obtain ⟨g, rfl, hb⟩ := ty_lgc h
  have ha : agT Try.prog 27 = true := by kernel_rfl
  rw [ha] at e
  exact ⟨g, e, hb⟩
theorem ty_n {a : AV} (e : a = mkE (agT Try.prog 3) cs) (h : tyC Try.prog B f 3 cs) : ∃ n, a = .int .i64 n := by
  obtain ⟨n, rfl⟩ := ty_i64 h
  rw [agT_f Try.underlying3 rfl] at e
  exact ⟨n, e⟩
theorem raftNew_law {a0 a1 a2 a3 a4 : AV} {u0 u1 u2 u3 u4 : Nat} {l0 l1 l2 l3 l4 : List AV} (e0 : a0 = mkE (agT Try.prog 3) l0) (y0 : tyC Try.prog B u0 3 l0) (e1 : a1 = mkE (agT Try.prog 3) l1) (y1 : tyC Try.prog B u1 3 l1) (e2 : a2 = mkE (agT Try.prog 3) l2) (y2 : tyC Try.prog B u2 3 l2) (e3 : a3 = mkE (agT Try.prog 27) l3) (y3 : tyC Try.prog B u3 27 l3) (e4 : a4 = mkE (agT Try.prog 3) l4) (y4 : tyC Try.prog B u4 3 l4) :
    EV C n_law19_RaftNew [a0, a1, a2, a3, a4] [] = some (.bool true, [], []) := by
  obtain ⟨n0, rfl⟩ := ty_n e0 y0
  obtain ⟨n1, rfl⟩ := ty_n e1 y1
  obtain ⟨n2, rfl⟩ := ty_n e2 y2
  obtain ⟨g, rfl, _⟩ := ty_lg e3 y3
  obtain ⟨n4, rfl⟩ := ty_n e4 y4
  exact RaftNew_law n0 n1 n2 g n4
end Go.Pm
