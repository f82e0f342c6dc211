/- A part of the proof: what the functions of the program answer, as plain lists and numbers. -/
import Derived.Test.YtndkpoacbheemaaP7
import Derived.Test.YtndkpoacbheemaaP25
namespace Go.Pm
open Go.Proofs
set_option linter.unusedVariables false
set_option linter.unusedSimpArgs false
theorem SGd.setNext {s : Stp} (h : SGd s) (i : Nat) (x : Int) (h0 : 0 ≤ x) (h1 : x ≤ most) : SGd { s with n := { s.n with next := s.n.next.set i x } } := by
  refine ⟨⟨⟨⟨by simp [h.w.n.ln], h.w.n.lm⟩, h.w.vn, h.w.en, h.w.out⟩, h.lg, h.sl⟩, h.id0, h.id1, fun j hj => ?_, h.mt, h.c0, h.c1⟩
  show 0 ≤ (s.n.next.set i x).getD j 0 ∧ (s.n.next.set i x).getD j 0 ≤ most
  by_cases hi : i < s.n.next.length
  · rw [getD_set hi]
    split
    · exact ⟨h0, h1⟩
    · exact h.nx j hj
  · rw [List.set_eq_of_length_le (by omega)]; exact h.nx j hj
theorem SGd.setMtch {s : Stp} (h : SGd s) (i : Nat) (x : Int) (h0 : 0 ≤ x) (h1 : x ≤ most) : SGd { s with n := { s.n with mtch := s.n.mtch.set i x } } := by
  refine ⟨⟨⟨⟨h.w.n.ln, by simp [h.w.n.lm]⟩, h.w.vn, h.w.en, h.w.out⟩, h.lg, h.sl⟩, h.id0, h.id1, h.nx, fun j hj => ?_, h.c0, h.c1⟩
  show 0 ≤ (s.n.mtch.set i x).getD j 0 ∧ (s.n.mtch.set i x).getD j 0 ≤ most
  by_cases hi : i < s.n.mtch.length
  · rw [getD_set hi]
    split
    · exact ⟨h0, h1⟩
    · exact h.mt j hj
  · rw [List.set_eq_of_length_le (by omega)]; exact h.mt j hj
theorem drawK_True {β : Type} (x : Option β) : drawK True x = x := drawK_t trivial x
def backN (n : Nde) (m : Msg) : Int :=
  let b := n.next.getD m.frm.toNat 0 - 1
  let c := if b < m.index + 1 then b else m.index + 1
  let d := n.mtch.getD m.frm.toNat 0 + 1
  let e := if d > c then d else c
  if most < e then most else e
def backF (s : Stp) (m : Msg) : Stp := { s with n := { s.n with next := s.n.next.set m.frm.toNat (backN s.n m) } }
def gotF (s : Stp) (m : Msg) : Stp := { s with n := { s.n with mtch := s.n.mtch.set m.frm.toNat (if m.index > s.n.mtch.getD m.frm.toNat 0 then m.index else s.n.mtch.getD m.frm.toNat 0) } }
def fwdF (s : Stp) (m : Msg) : Stp := { s with n := { s.n with next := s.n.next.set m.frm.toNat (if most < s.n.mtch.getD m.frm.toNat 0 + 1 then most else s.n.mtch.getD m.frm.toNat 0 + 1) } }
def ackF (s : Stp) (m : Msg) : Stp :=
  if m.ok = true then
    (if lastS s < m.index then s
    else
      let c := countsF (fwdF (gotF s m) m)
      if c.n.role = 2 then (if c.n.next.getD m.frm.toNat 0 ≤ lastS c then sendF c m.frm (bringM c.n m.frm) else c) else c)
  else sendF (backF s m) m.frm (bringM (backF s m).n m.frm)
theorem bringK {s : Stp} (h : SGd s) (to : Int) (h0 : 0 ≤ to) (h8 : to < 8) (ho : s.out.length < 1000000) {β : Type} {P R : List AObj} {K : AV → List AObj → List Nat → Option β} : callK (EV C) false n_raft_stepper_bring [.ptr (P.length + 1) 1 0 0, .int .i64 to] (hp P s R) K = K (.tup []) (hp P (sendF s to (bringM s.n to)) R) [] := (bring_m h to h0 h8 ho).call0 rfl
theorem backN_bounds {s : Stp} (h : SGd s) (m : Msg) (h0 : 0 ≤ m.frm) (h8 : m.frm < 8) : 0 ≤ backN s.n m ∧ backN s.n m ≤ most := by
  have hmo : most = 1152921504606846976 := rfl
  have n1 := h.nx m.frm.toNat (by omega)
  have n2 := h.mt m.frm.toNat (by omega)
  unfold backN
  dsimp only
  split <;> split <;> split <;> omega
theorem backF_gd {s : Stp} (h : SGd s) (m : Msg) (h0 : 0 ≤ m.frm) (h8 : m.frm < 8) : SGd (backF s m) := h.setNext _ _ (backN_bounds h m h0 h8).1 (backN_bounds h m h0 h8).2
theorem gotF_gd {s : Stp} (h : SGd s) (m : Msg) (h8 : m.frm.toNat < 8) (hi0 : 0 ≤ m.index) (hi1 : m.index ≤ most) : SGd (gotF s m) := by
  have n2 := h.mt m.frm.toNat h8
  exact h.setMtch _ _ (by split <;> omega) (by split <;> omega)
theorem fwdF_gd {s : Stp} (h : SGd s) (m : Msg) (h8 : m.frm.toNat < 8) : SGd (fwdF s m) := by
  have n2 := h.mt m.frm.toNat h8
  have hmo : most = 1152921504606846976 := rfl
  exact h.setNext _ _ (by split <;> omega) (by split <;> omega)
set_option maxHeartbeats 1000000 in
theorem ack_m {s : Stp} (h : SGd s) {m : Msg} (wm : m.wf) (h0 : 1 ≤ m.frm) (h7 : m.frm ≤ 7) (hi0 : 0 ≤ m.index) (hi1 : m.index ≤ most) (ho : s.out.length < 900000) : Meth n_raft_stepper_ack [m.av] s (.tup []) (ackF s m) := fun P R => by
  refine raft_stepper_ack_of ?_
  dsimp only
  have hmo : most = 1152921504606846976 := rfl
  have h8 : m.frm.toNat < 8 := by omega
  have n1 := h.nx m.frm.toNat h8
  have n2 := h.mt m.frm.toNat h8
  have ar : ∀ off, arA 8 1 (.ptr (P.length + 1) 1 0 off) (.int .i64 m.frm) = some (.ptr (P.length + 1) 1 0 (off + m.frm.toNat)) := fun off => arA_int (by omega) (by omega)
  rw [new_m wm]
  simp -implicitDefEqProofs only [nilA_ptr, offA_ptr, Option.bind_some, Nat.zero_add, Nat.add_zero, Nat.reduceAdd, hp_len, hp_app, List.append_nil, List.nil_append, ls_id, ls_term, ls_voted, ls_role, ls_leader, ls_index, ls_lterm, ls_mems, ls_es, ls_commit, ls_votes, ls_log, ls_base, ss_term, ss_voted, ss_role, ss_leader, ss_commit, ss_novotes, ss_votes, ss_es, eql_int, neq_int, lss_int, gtr_int, geq_int, leq_int, splitK_dec, condK_dec, splitK_t, splitK_f, condK_t, condK_f, extA_0, extA_1, extA_2, not_bool, Bool.not_true, Bool.not_false, neq_nn, neq_in, eql_nn, eql_in, List.append_assoc, List.cons_append, lm_kind, lm_frm, lm_to, lm_term, lm_index, lm_lterm, lm_commit, lm_ok, lm_es, lm_mems]
  unfold ackF
  cases hok : m.ok with
  | false =>
    rw [show (!false) = true from rfl, if_neg (by decide)]
    have e1 : IntKind.i64.wrap (m.index + 1) = m.index + 1 := wrap64 (by omega) (by omega)
    have e2 : IntKind.i64.wrap (s.n.next.getD m.frm.toNat 0 - 1) = s.n.next.getD m.frm.toNat 0 - 1 := wrap64 (by omega) (by omega)
    have e3 : IntKind.i64.wrap (s.n.mtch.getD m.frm.toNat 0 + 1) = s.n.mtch.getD m.frm.toNat 0 + 1 := wrap64 (by omega) (by omega)
    simp -implicitDefEqProofs only [nilA_ptr, offA_ptr, Option.bind_some, Nat.zero_add, Nat.add_zero, Nat.reduceAdd, hp_len, hp_app, List.append_nil, List.nil_append, ls_id, ls_term, ls_voted, ls_role, ls_leader, ls_index, ls_lterm, ls_mems, ls_es, ls_commit, ls_votes, ls_log, ls_base, ss_term, ss_voted, ss_role, ss_leader, ss_commit, ss_novotes, ss_votes, ss_es, eql_int, neq_int, lss_int, gtr_int, geq_int, leq_int, splitK_dec, condK_dec, splitK_t, splitK_f, condK_t, condK_f, extA_0, extA_1, extA_2, not_bool, Bool.not_true, Bool.not_false, neq_nn, neq_in, eql_nn, eql_in, List.append_assoc, List.cons_append, lm_kind, lm_frm, lm_to, lm_term, lm_index, lm_lterm, lm_commit, lm_ok, lm_es, lm_mems, add_int, sub_int, e1, ar, ls_next h.w.n h8, ls_mtch h.w.n h8, e2, e3, minA, maxA, ss_next h.w.n h8]
    have hg := backF_gd h m (by omega) (by omega)
    refine (bringK hg m.frm (by omega) (by omega) (show s.out.length < _ by omega)).trans ?_
    exact endB_n1 (v := .tup []) [mrow m] rfl
  | true =>
    rw [show (!true) = false from rfl, if_pos rfl]
    simp -implicitDefEqProofs only [nilA_ptr, offA_ptr, Option.bind_some, Nat.zero_add, Nat.add_zero, Nat.reduceAdd, hp_len, hp_app, List.append_nil, List.nil_append, ls_id, ls_term, ls_voted, ls_role, ls_leader, ls_index, ls_lterm, ls_mems, ls_es, ls_commit, ls_votes, ls_log, ls_base, ss_term, ss_voted, ss_role, ss_leader, ss_commit, ss_novotes, ss_votes, ss_es, eql_int, neq_int, lss_int, gtr_int, geq_int, leq_int, splitK_dec, condK_dec, splitK_t, splitK_f, condK_t, condK_f, extA_0, extA_1, extA_2, not_bool, Bool.not_true, Bool.not_false, neq_nn, neq_in, eql_nn, eql_in, List.append_assoc, List.cons_append, lm_kind, lm_frm, lm_to, lm_term, lm_index, lm_lterm, lm_commit, lm_ok, lm_es, lm_mems, lastK h.toSOk]
    simp -implicitDefEqProofs only [drawK_True]
    by_cases hl : lastS s < m.index
    · rw [if_pos hl, if_pos hl]
      exact endB_n1 [_] rfl
    · rw [if_neg hl, if_neg hl]
      have hg1 := gotF_gd h m h8 hi0 hi1
      have hg2 := fwdF_gd hg1 m h8
      simp -implicitDefEqProofs only [nilA_ptr, offA_ptr, Option.bind_some, Nat.zero_add, Nat.add_zero, Nat.reduceAdd, hp_len, hp_app, List.append_nil, List.nil_append, ls_id, ls_term, ls_voted, ls_role, ls_leader, ls_index, ls_lterm, ls_mems, ls_es, ls_commit, ls_votes, ls_log, ls_base, ss_term, ss_voted, ss_role, ss_leader, ss_commit, ss_novotes, ss_votes, ss_es, eql_int, neq_int, lss_int, gtr_int, geq_int, leq_int, splitK_dec, condK_dec, splitK_t, splitK_f, condK_t, condK_f, extA_0, extA_1, extA_2, not_bool, Bool.not_true, Bool.not_false, neq_nn, neq_in, eql_nn, eql_in, List.append_assoc, List.cons_append, lm_kind, lm_frm, lm_to, lm_term, lm_index, lm_lterm, lm_commit, lm_ok, lm_es, lm_mems, ar, ls_mtch h.w.n h8, maxA, ss_mtch h.w.n h8]
      obtain ⟨g, hgg⟩ : ∃ g, g = gotF s m := ⟨_, rfl⟩
      rw [show ({ s with n := { s.n with mtch := s.n.mtch.set m.frm.toNat (if m.index > s.n.mtch.getD m.frm.toNat 0 then m.index else s.n.mtch.getD m.frm.toNat 0) } } : Stp) = g from hgg.symm]
      have hgo : g.out = s.out := by rw [hgg]; rfl
      rw [← hgg] at hg1 hg2 ⊢
      have n3 := hg1.mt m.frm.toNat h8
      have e4 : IntKind.i64.wrap (g.n.mtch.getD m.frm.toNat 0 + 1) = g.n.mtch.getD m.frm.toNat 0 + 1 := wrap64 (by omega) (by omega)
      simp -implicitDefEqProofs only [nilA_ptr, offA_ptr, Option.bind_some, Nat.zero_add, Nat.add_zero, Nat.reduceAdd, hp_len, hp_app, List.append_nil, List.nil_append, ls_id, ls_term, ls_voted, ls_role, ls_leader, ls_index, ls_lterm, ls_mems, ls_es, ls_commit, ls_votes, ls_log, ls_base, ss_term, ss_voted, ss_role, ss_leader, ss_commit, ss_novotes, ss_votes, ss_es, eql_int, neq_int, lss_int, gtr_int, geq_int, leq_int, splitK_dec, condK_dec, splitK_t, splitK_f, condK_t, condK_f, extA_0, extA_1, extA_2, not_bool, Bool.not_true, Bool.not_false, neq_nn, neq_in, eql_nn, eql_in, List.append_assoc, List.cons_append, lm_kind, lm_frm, lm_to, lm_term, lm_index, lm_lterm, lm_commit, lm_ok, lm_es, lm_mems, ar, ls_mtch hg1.w.n h8, add_int, e4, minA, ss_next hg1.w.n h8]
      rw [show ({ g with n := { g.n with next := g.n.next.set m.frm.toNat (if 1152921504606846976 < g.n.mtch.getD m.frm.toNat 0 + 1 then 1152921504606846976 else g.n.mtch.getD m.frm.toNat 0 + 1) } } : Stp) = fwdF g m from rfl, countsK hg2]
      have hc := countsF_gd hg2
      have hco := (countsF_out (fwdF g m)).1
      obtain ⟨c, hcc⟩ : ∃ c, c = countsF (fwdF g m) := ⟨_, rfl⟩
      rw [← hcc] at hc hco ⊢
      have hco2 : c.out.length < 1000000 := by rw [hco]; show g.out.length < _; rw [hgo]; omega
      simp -implicitDefEqProofs only [nilA_ptr, offA_ptr, Option.bind_some, Nat.zero_add, Nat.add_zero, Nat.reduceAdd, hp_len, hp_app, List.append_nil, List.nil_append, ls_id, ls_term, ls_voted, ls_role, ls_leader, ls_index, ls_lterm, ls_mems, ls_es, ls_commit, ls_votes, ls_log, ls_base, ss_term, ss_voted, ss_role, ss_leader, ss_commit, ss_novotes, ss_votes, ss_es, eql_int, neq_int, lss_int, gtr_int, geq_int, leq_int, splitK_dec, condK_dec, splitK_t, splitK_f, condK_t, condK_f, extA_0, extA_1, extA_2, not_bool, Bool.not_true, Bool.not_false, neq_nn, neq_in, eql_nn, eql_in, List.append_assoc, List.cons_append, lm_kind, lm_frm, lm_to, lm_term, lm_index, lm_lterm, lm_commit, lm_ok, lm_es, lm_mems, drawK_True]
      by_cases hr : c.n.role = 2
      · rw [if_pos hr, if_pos hr]
        simp -implicitDefEqProofs only [nilA_ptr, offA_ptr, Option.bind_some, Nat.zero_add, Nat.add_zero, Nat.reduceAdd, hp_len, hp_app, List.append_nil, List.nil_append, ls_id, ls_term, ls_voted, ls_role, ls_leader, ls_index, ls_lterm, ls_mems, ls_es, ls_commit, ls_votes, ls_log, ls_base, ss_term, ss_voted, ss_role, ss_leader, ss_commit, ss_novotes, ss_votes, ss_es, eql_int, neq_int, lss_int, gtr_int, geq_int, leq_int, splitK_dec, condK_dec, splitK_t, splitK_f, condK_t, condK_f, extA_0, extA_1, extA_2, not_bool, Bool.not_true, Bool.not_false, neq_nn, neq_in, eql_nn, eql_in, List.append_assoc, List.cons_append, lm_kind, lm_frm, lm_to, lm_term, lm_index, lm_lterm, lm_commit, lm_ok, lm_es, lm_mems, ar, ls_next hc.w.n h8, lastK hc.toSOk, drawK_True]
        by_cases hn : c.n.next.getD m.frm.toNat 0 ≤ lastS c
        · rw [if_pos hn, if_pos hn, bringK hc m.frm (by omega) (by omega) hco2]
          exact endB_n1 [_] rfl
        · rw [if_neg hn, if_neg hn]
          exact endB_n1 [_] rfl
      · rw [if_neg hr, if_neg hr]
        exact endB_n1 [_] rfl
theorem ackK {s : Stp} (h : SGd s) {m : Msg} (wm : m.wf) (h0 : 1 ≤ m.frm) (h7 : m.frm ≤ 7) (hi0 : 0 ≤ m.index) (hi1 : m.index ≤ most) (ho : s.out.length < 900000) {β : Type} {P R : List AObj} {K : AV → List AObj → List Nat → Option β} : callK (EV C) false n_raft_stepper_ack [.ptr (P.length + 1) 1 0 0, m.av] (hp P s R) K = K (.tup []) (hp P (ackF s m) R) [] := (ack_m h wm h0 h7 hi0 hi1 ho).call0 (by simp [goodL, Msg.avgood wm])
def newF (m : List Int) (s : Stp) (l : List Int) : Stp := l.foldl (fun s id => if hasF m id = true then s else { s with n := { s.n with mtch := s.n.mtch.set id.toNat 0, next := s.n.next.set id.toNat (lastS s + 1) } }) s
theorem newF_has {m : List Int} {s : Stp} {x : Int} {l : List Int} (h : hasF m x = true) : newF m s (x :: l) = newF m s l := by
  show newF m (if hasF m x = true then s else _) l = _
  rw [if_pos h]
theorem newF_not {m : List Int} {s : Stp} {x : Int} {l : List Int} (h : ¬ hasF m x = true) : newF m s (x :: l) = newF m { s with n := { s.n with mtch := s.n.mtch.set x.toNat 0, next := s.n.next.set x.toNat (lastS s + 1) } } l := by
  show newF m (if hasF m x = true then s else _) l = _
  rw [if_neg h]
def changeF (s : Stp) (l : List Int) : Stp :=
  if s.n.role = 2 then
    (if stepC (memsS s) l = true then
      (if hasF (memsS s) s.n.id = true then
        (if most ≤ lastS s then s
        else if termL s.n.log s.n.commit = s.n.term then
          (if pendF s = true then s
          else if mayL l = true then proposeF (newF (memsS s) s l) 2 (byL l) else s)
        else s)
      else s)
    else s)
  else s
theorem change_J7 (mm l : List Int) (hl : mayL l = true) (hmm : mm.length ≤ 2^60) (b : List UInt8) (hb : b = byL l) (P R : List AObj) : ∀ (k i : Nat) (s : Stp), i + k = l.length → SGd s → lastS s < most → EOk s.n 2 b → s.out.length < 800000 →
    raft_stepper_change_J7 (P.length + 2 + R.length) (.ptr (P.length + 1) 1 0 0) (.ptr (P.length + 1) 1 0 0) (ints mm) (bys b) (ints l) (.int .i64 (l.length : Int)) (.int .i64 (i : Int)) (hp P s R) [] = some (.tup [], hp P (proposeF (newF mm s (l.drop i)) 2 b) R, [])
  | 0, i, s, hi, h, hls, he, ho => by
    refine raft_stepper_change_J7_of ?_
    simp -implicitDefEqProofs only [nilA_ptr, offA_ptr, Option.bind_some, Nat.zero_add, Nat.add_zero, Nat.reduceAdd, hp_len, hp_app, List.append_nil, List.nil_append, ls_id, ls_term, ls_voted, ls_role, ls_leader, ls_index, ls_lterm, ls_mems, ls_es, ls_commit, ls_votes, ls_log, ls_base, ss_term, ss_voted, ss_role, ss_leader, ss_commit, ss_novotes, ss_votes, ss_es, eql_int, neq_int, lss_int, gtr_int, geq_int, leq_int, splitK_dec, condK_dec, splitK_t, splitK_f, condK_t, condK_f, extA_0, extA_1, extA_2, not_bool, Bool.not_true, Bool.not_false, neq_nn, neq_in, eql_nn, eql_in, List.append_assoc, List.cons_append]
    rw [if_neg (by omega), List.drop_eq_nil_of_le (by omega), (propose_m h 2 b he ho).call0 (by simp [goodL, AV.good])]
    exact endB_n0 rfl
  | k + 1, i, s, hi, h, hls, he, ho => by
    refine raft_stepper_change_J7_of ?_
    have hlt : i < l.length := by omega
    have hx := may_mem hl _ (List.getElem_mem hlt)
    have hlen := may_len hl
    have hmo : most = 1152921504606846976 := rfl
    have hla := h.last
    have e3 : IntKind.i64.wrap ((i : Int) + 1) = ((i + 1 : Nat) : Int) := w64 (by omega) (by omega)
    have e4 : IntKind.i64.wrap (lastS s + 1) = lastS s + 1 := wrap64 (by omega) (by omega)
    have x8 : l[i].toNat < 8 := by omega
    have ar : ∀ off, arA 8 1 (.ptr (P.length + 1) 1 0 off) (.int .i64 l[i]) = some (.ptr (P.length + 1) 1 0 (off + l[i].toNat)) := fun off => arA_int (by omega) (by omega)
    simp -implicitDefEqProofs only [nilA_ptr, offA_ptr, Option.bind_some, Nat.zero_add, Nat.add_zero, Nat.reduceAdd, hp_len, hp_app, List.append_nil, List.nil_append, ls_id, ls_term, ls_voted, ls_role, ls_leader, ls_index, ls_lterm, ls_mems, ls_es, ls_commit, ls_votes, ls_log, ls_base, ss_term, ss_voted, ss_role, ss_leader, ss_commit, ss_novotes, ss_votes, ss_es, eql_int, neq_int, lss_int, gtr_int, geq_int, leq_int, splitK_dec, condK_dec, splitK_t, splitK_f, condK_t, condK_f, extA_0, extA_1, extA_2, not_bool, Bool.not_true, Bool.not_false, neq_nn, neq_in, eql_nn, eql_in, List.append_assoc, List.cons_append]
    rw [if_pos (by omega), ix_ints hlt, Option.bind_some, ld_i, Option.bind_some, confHasK _ _ hmm, List.drop_eq_getElem_cons hlt]
    cases hh : hasF mm l[i] with
    | true =>
      simp -implicitDefEqProofs only [nilA_ptr, offA_ptr, Option.bind_some, Nat.zero_add, Nat.add_zero, Nat.reduceAdd, hp_len, hp_app, List.append_nil, List.nil_append, ls_id, ls_term, ls_voted, ls_role, ls_leader, ls_index, ls_lterm, ls_mems, ls_es, ls_commit, ls_votes, ls_log, ls_base, ss_term, ss_voted, ss_role, ss_leader, ss_commit, ss_novotes, ss_votes, ss_es, eql_int, neq_int, lss_int, gtr_int, geq_int, leq_int, splitK_dec, condK_dec, splitK_t, splitK_f, condK_t, condK_f, extA_0, extA_1, extA_2, not_bool, Bool.not_true, Bool.not_false, neq_nn, neq_in, eql_nn, eql_in, List.append_assoc, List.cons_append, add_int, e3]
      rw [newF_has hh]
      exact change_J7 mm l hl hmm b hb P R k (i + 1) s (by omega) h hls he ho
    | false =>
      have h1 := h.setMtch l[i].toNat 0 (Int.le_refl _) (by omega)
      have h2 := h1.setNext l[i].toNat (lastS s + 1) (by omega) (by omega)
      have w1 := h1.w.n
      simp -implicitDefEqProofs only [nilA_ptr, offA_ptr, Option.bind_some, Nat.zero_add, Nat.add_zero, Nat.reduceAdd, hp_len, hp_app, List.append_nil, List.nil_append, ls_id, ls_term, ls_voted, ls_role, ls_leader, ls_index, ls_lterm, ls_mems, ls_es, ls_commit, ls_votes, ls_log, ls_base, ss_term, ss_voted, ss_role, ss_leader, ss_commit, ss_novotes, ss_votes, ss_es, eql_int, neq_int, lss_int, gtr_int, geq_int, leq_int, splitK_dec, condK_dec, splitK_t, splitK_f, condK_t, condK_f, extA_0, extA_1, extA_2, not_bool, Bool.not_true, Bool.not_false, neq_nn, neq_in, eql_nn, eql_in, List.append_assoc, List.cons_append, lastK h.toSOk, add_int, e4, ar, ss_mtch h.w.n x8, ss_next w1 x8, e3]
      rw [newF_not (by rw [hh]; decide)]
      exact change_J7 mm l hl hmm b hb P R k (i + 1) _ (by omega) h2 hls he ho
theorem stepC_may {a b : List Int} (h : stepC a b = true) : mayL a = true ∧ mayL b = true := by
  unfold stepC at h
  split at h <;> (simp only [stepQ, Bool.and_eq_true] at h)
  · exact ⟨h.2.1, h.1⟩
  · exact ⟨h.1, h.2.1⟩
set_option maxHeartbeats 1000000 in
theorem change_m {s : Stp} (h : SFu s) (l : List Int) (hl : l.length < 2^60) (ho : s.out.length < 800000) : Meth n_raft_stepper_change [ints l] s (.tup []) (changeF s l) := fun P R => by
  refine raft_stepper_change_of ?_
  dsimp only
  have hmo : most = 1152921504606846976 := rfl
  have ml := h.ml
  have hhc : hasL s.n.log s.n.commit = true := hasL_iff.2 ⟨h.c0, h.c1⟩
  have stepK : ∀ (H : List AObj) (K : AV → List AObj → List Nat → Option R3), callK (EV C) false n_conf_Step [ints (memsS s), ints l] H K = K (.bool (stepC (memsS s) l)) H [] := fun H K => callK_ok (by simp [goodL]) (confStep_ok _ _ ml (by omega))
  simp -implicitDefEqProofs only [nilA_ptr, offA_ptr, Option.bind_some, Nat.zero_add, Nat.add_zero, Nat.reduceAdd, hp_len, hp_app, List.append_nil, List.nil_append, ls_id, ls_term, ls_voted, ls_role, ls_leader, ls_index, ls_lterm, ls_mems, ls_es, ls_commit, ls_votes, ls_log, ls_base, ss_term, ss_voted, ss_role, ss_leader, ss_commit, ss_novotes, ss_votes, ss_es, eql_int, neq_int, lss_int, gtr_int, geq_int, leq_int, splitK_dec, condK_dec, splitK_t, splitK_f, condK_t, condK_f, extA_0, extA_1, extA_2, not_bool, Bool.not_true, Bool.not_false, neq_nn, neq_in, eql_nn, eql_in, List.append_assoc, List.cons_append, membersK h.toSOk, TermD h.toSOk _ hhc]
  unfold changeF
  by_cases h2 : s.n.role = 2
  · rw [if_pos h2, show decide (s.n.role = 2) = true from decide_eq_true h2]
    simp -implicitDefEqProofs only [nilA_ptr, offA_ptr, Option.bind_some, Nat.zero_add, Nat.add_zero, Nat.reduceAdd, hp_len, hp_app, List.append_nil, List.nil_append, ls_id, ls_term, ls_voted, ls_role, ls_leader, ls_index, ls_lterm, ls_mems, ls_es, ls_commit, ls_votes, ls_log, ls_base, ss_term, ss_voted, ss_role, ss_leader, ss_commit, ss_novotes, ss_votes, ss_es, eql_int, neq_int, lss_int, gtr_int, geq_int, leq_int, splitK_dec, condK_dec, splitK_t, splitK_f, condK_t, condK_f, extA_0, extA_1, extA_2, not_bool, Bool.not_true, Bool.not_false, neq_nn, neq_in, eql_nn, eql_in, List.append_assoc, List.cons_append, stepK]
    cases hs : stepC (memsS s) l with
    | false =>
      simp -implicitDefEqProofs only [nilA_ptr, offA_ptr, Option.bind_some, Nat.zero_add, Nat.add_zero, Nat.reduceAdd, hp_len, hp_app, List.append_nil, List.nil_append, ls_id, ls_term, ls_voted, ls_role, ls_leader, ls_index, ls_lterm, ls_mems, ls_es, ls_commit, ls_votes, ls_log, ls_base, ss_term, ss_voted, ss_role, ss_leader, ss_commit, ss_novotes, ss_votes, ss_es, eql_int, neq_int, lss_int, gtr_int, geq_int, leq_int, splitK_dec, condK_dec, splitK_t, splitK_f, condK_t, condK_f, extA_0, extA_1, extA_2, not_bool, Bool.not_true, Bool.not_false, neq_nn, neq_in, eql_nn, eql_in, List.append_assoc, List.cons_append, Bool.false_eq_true, if_false]
      exact endB_n0 rfl
    | true =>
      have hml := (stepC_may hs).2
      simp -implicitDefEqProofs only [nilA_ptr, offA_ptr, Option.bind_some, Nat.zero_add, Nat.add_zero, Nat.reduceAdd, hp_len, hp_app, List.append_nil, List.nil_append, ls_id, ls_term, ls_voted, ls_role, ls_leader, ls_index, ls_lterm, ls_mems, ls_es, ls_commit, ls_votes, ls_log, ls_base, ss_term, ss_voted, ss_role, ss_leader, ss_commit, ss_novotes, ss_votes, ss_es, eql_int, neq_int, lss_int, gtr_int, geq_int, leq_int, splitK_dec, condK_dec, splitK_t, splitK_f, condK_t, condK_f, extA_0, extA_1, extA_2, not_bool, Bool.not_true, Bool.not_false, neq_nn, neq_in, eql_nn, eql_in, List.append_assoc, List.cons_append, if_true, confHasK _ _ ml]
      cases hh : hasF (memsS s) s.n.id with
      | false =>
        simp -implicitDefEqProofs only [nilA_ptr, offA_ptr, Option.bind_some, Nat.zero_add, Nat.add_zero, Nat.reduceAdd, hp_len, hp_app, List.append_nil, List.nil_append, ls_id, ls_term, ls_voted, ls_role, ls_leader, ls_index, ls_lterm, ls_mems, ls_es, ls_commit, ls_votes, ls_log, ls_base, ss_term, ss_voted, ss_role, ss_leader, ss_commit, ss_novotes, ss_votes, ss_es, eql_int, neq_int, lss_int, gtr_int, geq_int, leq_int, splitK_dec, condK_dec, splitK_t, splitK_f, condK_t, condK_f, extA_0, extA_1, extA_2, not_bool, Bool.not_true, Bool.not_false, neq_nn, neq_in, eql_nn, eql_in, List.append_assoc, List.cons_append, Bool.false_eq_true, if_false]
        exact endB_n0 rfl
      | true =>
        simp -implicitDefEqProofs only [nilA_ptr, offA_ptr, Option.bind_some, Nat.zero_add, Nat.add_zero, Nat.reduceAdd, hp_len, hp_app, List.append_nil, List.nil_append, ls_id, ls_term, ls_voted, ls_role, ls_leader, ls_index, ls_lterm, ls_mems, ls_es, ls_commit, ls_votes, ls_log, ls_base, ss_term, ss_voted, ss_role, ss_leader, ss_commit, ss_novotes, ss_votes, ss_es, eql_int, neq_int, lss_int, gtr_int, geq_int, leq_int, splitK_dec, condK_dec, splitK_t, splitK_f, condK_t, condK_f, extA_0, extA_1, extA_2, not_bool, Bool.not_true, Bool.not_false, neq_nn, neq_in, eql_nn, eql_in, List.append_assoc, List.cons_append, if_true, lastK h.toSOk]
        by_cases hls : most ≤ lastS s
        · rw [if_pos hls, show ∀ a b : Option R3, (if 1152921504606846976 ≤ lastS s then a else b) = a from fun a b => if_pos hls]
          exact endB_n0 rfl
        · rw [if_neg hls, show ∀ a b : Option R3, (if 1152921504606846976 ≤ lastS s then a else b) = b from fun a b => if_neg hls]
          by_cases ht : termL s.n.log s.n.commit = s.n.term
          · rw [if_pos ht, show decide (termL s.n.log s.n.commit = s.n.term) = true from decide_eq_true ht]
            simp -implicitDefEqProofs only [nilA_ptr, offA_ptr, Option.bind_some, Nat.zero_add, Nat.add_zero, Nat.reduceAdd, hp_len, hp_app, List.append_nil, List.nil_append, ls_id, ls_term, ls_voted, ls_role, ls_leader, ls_index, ls_lterm, ls_mems, ls_es, ls_commit, ls_votes, ls_log, ls_base, ss_term, ss_voted, ss_role, ss_leader, ss_commit, ss_novotes, ss_votes, ss_es, eql_int, neq_int, lss_int, gtr_int, geq_int, leq_int, splitK_dec, condK_dec, splitK_t, splitK_f, condK_t, condK_f, extA_0, extA_1, extA_2, not_bool, Bool.not_true, Bool.not_false, neq_nn, neq_in, eql_nn, eql_in, List.append_assoc, List.cons_append, pendingK h.toSGd]
            cases hp : pendF s with
            | true =>
              simp -implicitDefEqProofs only [nilA_ptr, offA_ptr, Option.bind_some, Nat.zero_add, Nat.add_zero, Nat.reduceAdd, hp_len, hp_app, List.append_nil, List.nil_append, ls_id, ls_term, ls_voted, ls_role, ls_leader, ls_index, ls_lterm, ls_mems, ls_es, ls_commit, ls_votes, ls_log, ls_base, ss_term, ss_voted, ss_role, ss_leader, ss_commit, ss_novotes, ss_votes, ss_es, eql_int, neq_int, lss_int, gtr_int, geq_int, leq_int, splitK_dec, condK_dec, splitK_t, splitK_f, condK_t, condK_f, extA_0, extA_1, extA_2, not_bool, Bool.not_true, Bool.not_false, neq_nn, neq_in, eql_nn, eql_in, List.append_assoc, List.cons_append, if_true]
              exact endB_n0 rfl
            | false =>
              have hby : EV C n_conf_Bytes [ints l] [] = some (.tup [bys (byL l), .nili], [], []) := by rw [confBytes_ok l hl, if_pos hml]
              simp -implicitDefEqProofs only [nilA_ptr, offA_ptr, Option.bind_some, Nat.zero_add, Nat.add_zero, Nat.reduceAdd, hp_len, hp_app, List.append_nil, List.nil_append, ls_id, ls_term, ls_voted, ls_role, ls_leader, ls_index, ls_lterm, ls_mems, ls_es, ls_commit, ls_votes, ls_log, ls_base, ss_term, ss_voted, ss_role, ss_leader, ss_commit, ss_novotes, ss_votes, ss_es, eql_int, neq_int, lss_int, gtr_int, geq_int, leq_int, splitK_dec, condK_dec, splitK_t, splitK_f, condK_t, condK_f, extA_0, extA_1, extA_2, not_bool, Bool.not_true, Bool.not_false, neq_nn, neq_in, eql_nn, eql_in, List.append_assoc, List.cons_append, Bool.false_eq_true, if_false, callK_ok (show goodL [ints l] = true from by simp [goodL]) hby, lenV_ints]
              rw [if_pos hml]
              have he : EOk s.n 2 (byL l) := by
                have ht0 := h.t0; have ht1 := h.t1; have hel := h.el
                have htr : 0 < s.n.term := by rcases h.tr with h | h <;> omega
                refine ⟨ht0, by omega, ht1, by decide, by decide, fun _ => ?_, ?_, by omega⟩
                · rw [ofB_byL (may_mem hml)]; exact hml
                · have := may_len hml; simp [byL]; omega
              have := change_J7 (memsS s) l hml ml (byL l) rfl P R l.length 0 s (by omega) h.toSGd (by omega) he ho
              rw [List.drop_zero] at this
              exact this
          · rw [if_neg ht, show decide (termL s.n.log s.n.commit = s.n.term) = false from decide_eq_false ht]
            simp -implicitDefEqProofs only [nilA_ptr, offA_ptr, Option.bind_some, Nat.zero_add, Nat.add_zero, Nat.reduceAdd, hp_len, hp_app, List.append_nil, List.nil_append, ls_id, ls_term, ls_voted, ls_role, ls_leader, ls_index, ls_lterm, ls_mems, ls_es, ls_commit, ls_votes, ls_log, ls_base, ss_term, ss_voted, ss_role, ss_leader, ss_commit, ss_novotes, ss_votes, ss_es, eql_int, neq_int, lss_int, gtr_int, geq_int, leq_int, splitK_dec, condK_dec, splitK_t, splitK_f, condK_t, condK_f, extA_0, extA_1, extA_2, not_bool, Bool.not_true, Bool.not_false, neq_nn, neq_in, eql_nn, eql_in, List.append_assoc, List.cons_append]
            exact endB_n0 rfl
  · rw [if_neg h2, show decide (s.n.role = 2) = false from decide_eq_false h2]
    simp -implicitDefEqProofs only [nilA_ptr, offA_ptr, Option.bind_some, Nat.zero_add, Nat.add_zero, Nat.reduceAdd, hp_len, hp_app, List.append_nil, List.nil_append, ls_id, ls_term, ls_voted, ls_role, ls_leader, ls_index, ls_lterm, ls_mems, ls_es, ls_commit, ls_votes, ls_log, ls_base, ss_term, ss_voted, ss_role, ss_leader, ss_commit, ss_novotes, ss_votes, ss_es, eql_int, neq_int, lss_int, gtr_int, geq_int, leq_int, splitK_dec, condK_dec, splitK_t, splitK_f, condK_t, condK_f, extA_0, extA_1, extA_2, not_bool, Bool.not_true, Bool.not_false, neq_nn, neq_in, eql_nn, eql_in, List.append_assoc, List.cons_append]
    exact endB_n0 rfl
theorem changeK {s : Stp} (h : SFu s) (l : List Int) (hl : l.length < 2^60) (ho : s.out.length < 800000) {β : Type} {P R : List AObj} {K : AV → List AObj → List Nat → Option β} : callK (EV C) false n_raft_stepper_change [.ptr (P.length + 1) 1 0 0, ints l] (hp P s R) K = K (.tup []) (hp P (changeF s l) R) [] := (change_m h l hl ho).call0 (by simp [goodL])
end Go.Pm
namespace Go.Pm
open Go.Proofs
set_option linter.unusedVariables false
set_option linter.unusedSimpArgs false
def validM (n : Nde) (m : Msg) : Bool := decide (m.to = n.id) && (!decide (m.frm = n.id) && (inF m.frm 1 7 && (inF m.term 1 1152921504606846976 && (inF m.index 0 1152921504606846976 && (inF m.lterm 0 1152921504606846976 && inF m.commit 0 1152921504606846976)))))
def newT (s : Stp) (m : Msg) : Stp := { s with n := { s.n with term := m.term, voted := 0, leader := 0, role := 0, votes := [] }, vn := true }
def wonF (s : Stp) : Stp := if mostF (memsS s) s.n.votes = true then leadsF s else s
def voteF (s : Stp) (m : Msg) : Stp := if hasF s.n.votes m.frm = true then s else { s with n := { s.n with votes := s.n.votes ++ [m.frm] }, vn := false }
def hearF (s : Stp) (m : Msg) : Stp :=
  if m.term < s.n.term then
    (if m.kind = 1 then sendF s m.frm (msg0 2)
    else if m.kind = 3 then sendF s m.frm { msg0 4 with index := lastS s }
    else if m.kind = 5 then sendF s m.frm { msg0 4 with index := lastS s }
    else s)
  else if m.kind = 1 then askF s m
  else if m.kind = 2 then (if s.n.role = 1 then (if m.ok = true then wonF (voteF s m) else s) else s)
  else if m.kind = 3 then appF' s m
  else if m.kind = 5 then snapF s m
  else if m.kind = 4 then (if s.n.role = 2 then (if hasF (memsS s) m.frm = true then ackF s m else s) else s)
  else s
def msgF (s : Stp) (m : Msg) : Stp := if validM s.n m = true then hearF (if s.n.term < m.term then newT s m else s) m else s
theorem mostD {s : Stp} (w : s.wf) (l : List Int) (hl : l.length ≤ 2^60) (hv : s.n.votes.length ≤ 2^60) {H : List AObj} : callD (EV C) n_conf_Most [ints l, s.vav] H = some (.bool (mostF l s.n.votes)) :=
  callD_nil (by simp only [killsL, kills_good _ (good_ints l), kills_vav, List.append_nil]) (by simp only [frzL, frz_good _ _ (good_ints l), frz_vav w, Option.bind_some, Option.map_some]) (by simp [goodL]) (most_ok l s.n.votes hl hv)
theorem containsD {s : Stp} (w : s.wf) (x : Int) (hv : s.n.votes.length ≤ 2^60) {H : List AObj} : callD (EV C) n_Contains_int [s.vav, .int .i64 x] H = some (.bool (hasF s.n.votes x)) :=
  callD_nil (by simp only [killsL, kills, kills_vav, List.append_nil]) (by simp only [frzL, frz_vav w, frz, Option.bind_some, Option.map_some]) (by simp [goodL, AV.good]) (contains_ok s.n.votes x hv)
theorem inD (a b c : Int) (H : List AObj) : callD (EV C) n_raft_in [.int .i64 a, .int .i64 b, .int .i64 c] H = some (.bool (inF a b c)) := callD_ok (by simp [goodL, AV.good]) (in_ok a b c)
theorem msg_S19 {s : Stp} (h : SGd s) (he : EOk s.n 0 []) (hv : s.n.votes.length ≤ 2^60) (ho : s.out.length < 800000) (P R X : List AObj) :
    raft_stepper_msg_S19 (P.length + 2 + R.length) (.ptr (P.length + 1) 1 0 0) (.ptr (P.length + 1) 1 0 0) (hp P s (R ++ X)) [] = some (.tup [], hp P (wonF s) R, []) := by
  refine raft_stepper_msg_S19_of ?_
  simp -implicitDefEqProofs only [nilA_ptr, offA_ptr, Option.bind_some, Nat.zero_add, Nat.add_zero, Nat.reduceAdd, hp_len, hp_app, List.append_nil, List.nil_append, ls_id, ls_term, ls_voted, ls_role, ls_leader, ls_index, ls_lterm, ls_mems, ls_es, ls_commit, ls_votes, ls_log, ls_base, ss_term, ss_voted, ss_role, ss_leader, ss_commit, ss_novotes, ss_votes, ss_es, eql_int, neq_int, lss_int, gtr_int, geq_int, leq_int, splitK_dec, condK_dec, splitK_t, splitK_f, condK_t, condK_f, extA_0, extA_1, extA_2, not_bool, Bool.not_true, Bool.not_false, neq_nn, neq_in, eql_nn, eql_in, List.append_assoc, List.cons_append, membersK h.toSOk, drawK_True, mostD h.w _ h.ml hv]
  unfold wonF
  cases hm : mostF (memsS s) s.n.votes with
  | true =>
    simp -implicitDefEqProofs only [nilA_ptr, offA_ptr, Option.bind_some, Nat.zero_add, Nat.add_zero, Nat.reduceAdd, hp_len, hp_app, List.append_nil, List.nil_append, ls_id, ls_term, ls_voted, ls_role, ls_leader, ls_index, ls_lterm, ls_mems, ls_es, ls_commit, ls_votes, ls_log, ls_base, ss_term, ss_voted, ss_role, ss_leader, ss_commit, ss_novotes, ss_votes, ss_es, eql_int, neq_int, lss_int, gtr_int, geq_int, leq_int, splitK_dec, condK_dec, splitK_t, splitK_f, condK_t, condK_f, extA_0, extA_1, extA_2, not_bool, Bool.not_true, Bool.not_false, neq_nn, neq_in, eql_nn, eql_in, List.append_assoc, List.cons_append, if_true, leadsK h he ho]
    exact endB_n1 X rfl
  | false =>
    simp -implicitDefEqProofs only [nilA_ptr, offA_ptr, Option.bind_some, Nat.zero_add, Nat.add_zero, Nat.reduceAdd, hp_len, hp_app, List.append_nil, List.nil_append, ls_id, ls_term, ls_voted, ls_role, ls_leader, ls_index, ls_lterm, ls_mems, ls_es, ls_commit, ls_votes, ls_log, ls_base, ss_term, ss_voted, ss_role, ss_leader, ss_commit, ss_novotes, ss_votes, ss_es, eql_int, neq_int, lss_int, gtr_int, geq_int, leq_int, splitK_dec, condK_dec, splitK_t, splitK_f, condK_t, condK_f, extA_0, extA_1, extA_2, not_bool, Bool.not_true, Bool.not_false, neq_nn, neq_in, eql_nn, eql_in, List.append_assoc, List.cons_append, Bool.false_eq_true, if_false]
    exact endB_n1 X rfl
set_option maxHeartbeats 2000000 in
theorem msg_S5 {s : Stp} (h : SFu s) {m : Msg} (wm : m.wf) (f0 : 1 ≤ m.frm) (f7 : m.frm ≤ 7) (mt : 1 ≤ m.term) (hmt : m.term ≤ s.n.term) (hi0 : 0 ≤ m.index) (hi1 : m.index ≤ most) (he : m.es.length < 2^39) (hd : lightP m.es) (hml : m.mems.length < 2^40) (ho : s.out.length < 700000) (P R : List AObj) :
    raft_stepper_msg_S5 (P.length + 2 + R.length) (.ptr (P.length + 1) 1 0 0) (.ptr (P.length + 2 + R.length) 1 0 0) (.ptr (P.length + 1) 1 0 0) (hp P s (R ++ [mrow m])) [] = some (.tup [], hp P (hearF s m) R, []) := by
  refine raft_stepper_msg_S5_of ?_
  unfold hearF
  have hvl := h.vl
  have ht0 := h.t0; have ht1 := h.t1; have hel := h.el
  simp -implicitDefEqProofs only [nilA_ptr, offA_ptr, Option.bind_some, Nat.zero_add, Nat.add_zero, Nat.reduceAdd, hp_len, hp_app, List.append_nil, List.nil_append, ls_id, ls_term, ls_voted, ls_role, ls_leader, ls_index, ls_lterm, ls_mems, ls_es, ls_commit, ls_votes, ls_log, ls_base, ss_term, ss_voted, ss_role, ss_leader, ss_commit, ss_novotes, ss_votes, ss_es, eql_int, neq_int, lss_int, gtr_int, geq_int, leq_int, splitK_dec, condK_dec, splitK_t, splitK_f, condK_t, condK_f, extA_0, extA_1, extA_2, not_bool, Bool.not_true, Bool.not_false, neq_nn, neq_in, eql_nn, eql_in, List.append_assoc, List.cons_append, lm_kind, lm_frm, lm_to, lm_term, lm_index, lm_lterm, lm_commit, lm_ok, lm_es, lm_mems]
  by_cases hold : m.term < s.n.term
  · rw [if_pos hold, if_pos hold]
    by_cases k1 : m.kind = 1
    · rw [if_pos k1, if_pos k1, fsend (m := msg0 2) h.w (tail0_wf rfl) (by omega) rfl (fun H => rfl) rfl]
      exact endB_n1 [_] rfl
    · rw [if_neg k1, if_neg k1]
      by_cases k3 : m.kind = 3
      · rw [if_pos k3, if_pos k3]
        simp -implicitDefEqProofs only [nilA_ptr, offA_ptr, Option.bind_some, Nat.zero_add, Nat.add_zero, Nat.reduceAdd, hp_len, hp_app, List.append_nil, List.nil_append, ls_id, ls_term, ls_voted, ls_role, ls_leader, ls_index, ls_lterm, ls_mems, ls_es, ls_commit, ls_votes, ls_log, ls_base, ss_term, ss_voted, ss_role, ss_leader, ss_commit, ss_novotes, ss_votes, ss_es, eql_int, neq_int, lss_int, gtr_int, geq_int, leq_int, splitK_dec, condK_dec, splitK_t, splitK_f, condK_t, condK_f, extA_0, extA_1, extA_2, not_bool, Bool.not_true, Bool.not_false, neq_nn, neq_in, eql_nn, eql_in, List.append_assoc, List.cons_append, lm_kind, lm_frm, lm_to, lm_term, lm_index, lm_lterm, lm_commit, lm_ok, lm_es, lm_mems, lastK h.toSOk, drawK_True]
        rw [fsend (m := { msg0 4 with index := lastS s }) h.w (tail0_wf rfl) (by omega) rfl (fun H => rfl) rfl]
        exact endB_n1 [_] rfl
      · rw [if_neg k3, if_neg k3]
        by_cases k5 : m.kind = 5
        · rw [if_pos k5, if_pos k5]
          simp -implicitDefEqProofs only [nilA_ptr, offA_ptr, Option.bind_some, Nat.zero_add, Nat.add_zero, Nat.reduceAdd, hp_len, hp_app, List.append_nil, List.nil_append, ls_id, ls_term, ls_voted, ls_role, ls_leader, ls_index, ls_lterm, ls_mems, ls_es, ls_commit, ls_votes, ls_log, ls_base, ss_term, ss_voted, ss_role, ss_leader, ss_commit, ss_novotes, ss_votes, ss_es, eql_int, neq_int, lss_int, gtr_int, geq_int, leq_int, splitK_dec, condK_dec, splitK_t, splitK_f, condK_t, condK_f, extA_0, extA_1, extA_2, not_bool, Bool.not_true, Bool.not_false, neq_nn, neq_in, eql_nn, eql_in, List.append_assoc, List.cons_append, lm_kind, lm_frm, lm_to, lm_term, lm_index, lm_lterm, lm_commit, lm_ok, lm_es, lm_mems, lastK h.toSOk, drawK_True]
          rw [fsend (m := { msg0 4 with index := lastS s }) h.w (tail0_wf rfl) (by omega) rfl (fun H => rfl) rfl]
          exact endB_n1 [_] rfl
        · rw [if_neg k5, if_neg k5]
          exact endB_n1 [_] rfl
  · rw [if_neg hold, if_neg hold]
    have hE : EOk s.n 0 [] := ⟨ht0, by omega, ht1, by decide, by decide, fun h => absurd h (by decide), by decide, by omega⟩
    by_cases k1 : m.kind = 1
    · rw [if_pos k1, if_pos k1]
      simp -implicitDefEqProofs only [lm_all wm, Option.bind_some]
      rw [askK h.toSGd wm (by omega)]
      exact endB_n1 [_] rfl
    · rw [if_neg k1, if_neg k1]
      by_cases k2 : m.kind = 2
      · rw [if_pos k2, if_pos k2]
        by_cases r1 : s.n.role = 1
        · rw [if_pos r1, if_pos r1]
          cases hok : m.ok with
          | false =>
            simp -implicitDefEqProofs only [nilA_ptr, offA_ptr, Option.bind_some, Nat.zero_add, Nat.add_zero, Nat.reduceAdd, hp_len, hp_app, List.append_nil, List.nil_append, ls_id, ls_term, ls_voted, ls_role, ls_leader, ls_index, ls_lterm, ls_mems, ls_es, ls_commit, ls_votes, ls_log, ls_base, ss_term, ss_voted, ss_role, ss_leader, ss_commit, ss_novotes, ss_votes, ss_es, eql_int, neq_int, lss_int, gtr_int, geq_int, leq_int, splitK_dec, condK_dec, splitK_t, splitK_f, condK_t, condK_f, extA_0, extA_1, extA_2, not_bool, Bool.not_true, Bool.not_false, neq_nn, neq_in, eql_nn, eql_in, List.append_assoc, List.cons_append, Bool.false_eq_true, if_false]
            exact endB_n1 [_] rfl
          | true =>
            simp -implicitDefEqProofs only [nilA_ptr, offA_ptr, Option.bind_some, Nat.zero_add, Nat.add_zero, Nat.reduceAdd, hp_len, hp_app, List.append_nil, List.nil_append, ls_id, ls_term, ls_voted, ls_role, ls_leader, ls_index, ls_lterm, ls_mems, ls_es, ls_commit, ls_votes, ls_log, ls_base, ss_term, ss_voted, ss_role, ss_leader, ss_commit, ss_novotes, ss_votes, ss_es, eql_int, neq_int, lss_int, gtr_int, geq_int, leq_int, splitK_dec, condK_dec, splitK_t, splitK_f, condK_t, condK_f, extA_0, extA_1, extA_2, not_bool, Bool.not_true, Bool.not_false, neq_nn, neq_in, eql_nn, eql_in, List.append_assoc, List.cons_append, lm_kind, lm_frm, lm_to, lm_term, lm_index, lm_lterm, lm_commit, lm_ok, lm_es, lm_mems, if_true, containsD h.w m.frm (show s.n.votes.length ≤ 2^60 by omega)]
            unfold voteF
            cases hh : hasF s.n.votes m.frm with
            | true =>
              simp -implicitDefEqProofs only [nilA_ptr, offA_ptr, Option.bind_some, Nat.zero_add, Nat.add_zero, Nat.reduceAdd, hp_len, hp_app, List.append_nil, List.nil_append, ls_id, ls_term, ls_voted, ls_role, ls_leader, ls_index, ls_lterm, ls_mems, ls_es, ls_commit, ls_votes, ls_log, ls_base, ss_term, ss_voted, ss_role, ss_leader, ss_commit, ss_novotes, ss_votes, ss_es, eql_int, neq_int, lss_int, gtr_int, geq_int, leq_int, splitK_dec, condK_dec, splitK_t, splitK_f, condK_t, condK_f, extA_0, extA_1, extA_2, not_bool, Bool.not_true, Bool.not_false, neq_nn, neq_in, eql_nn, eql_in, List.append_assoc, List.cons_append, if_true]
              exact msg_S19 h.toSGd hE (by omega) (by omega) P R [mrow m]
            | false =>
              simp -implicitDefEqProofs only [nilA_ptr, offA_ptr, Option.bind_some, Nat.zero_add, Nat.add_zero, Nat.reduceAdd, hp_len, hp_app, List.append_nil, List.nil_append, ls_id, ls_term, ls_voted, ls_role, ls_leader, ls_index, ls_lterm, ls_mems, ls_es, ls_commit, ls_votes, ls_log, ls_base, ss_term, ss_voted, ss_role, ss_leader, ss_commit, ss_novotes, ss_votes, ss_es, eql_int, neq_int, lss_int, gtr_int, geq_int, leq_int, splitK_dec, condK_dec, splitK_t, splitK_f, condK_t, condK_f, extA_0, extA_1, extA_2, not_bool, Bool.not_true, Bool.not_false, neq_nn, neq_in, eql_nn, eql_in, List.append_assoc, List.cons_append, Bool.false_eq_true, if_false]
              obtain ⟨a, X, h1, h2⟩ := clone_votes h.w (by omega) (hp P s (R ++ [mrow m]))
              rw [callK_raw h1]
              have hlit : ∀ (x : Int) (H : List AObj), litD 1 1 (.int .i64 0) [(0, .int .i64 x)] H = some (ints [x]) := fun x H => rfl
              have l1 : loadA false 1 (.ptr (P.length + 2 + R.length) 1 0 1) (hp P s (R ++ [mrow m]) ++ X) = some (.int .i64 m.frm) := by
                rw [hp_app, List.append_assoc, List.singleton_append]; exact lm_frm
              simp -implicitDefEqProofs only [l1, Option.bind_some, lm_frm, drawK_True, hlit]
              rw [show ints [m.frm] = .lst [i64 m.frm] from rfl, cl_app h2 rfl (goodL_i64 _) rfl rfl (by decide) (by decide) (by decide) (by simp; omega)]
              have e : AV.lst (s.n.votes.map i64 ++ [i64 m.frm]) = ints (s.n.votes ++ [m.frm]) := by simp [ints]
              rw [e]
              simp -implicitDefEqProofs only [nilA_ptr, offA_ptr, Option.bind_some, Nat.zero_add, Nat.add_zero, Nat.reduceAdd, hp_len, hp_app, List.append_nil, List.nil_append, ls_id, ls_term, ls_voted, ls_role, ls_leader, ls_index, ls_lterm, ls_mems, ls_es, ls_commit, ls_votes, ls_log, ls_base, ss_term, ss_voted, ss_role, ss_leader, ss_commit, ss_novotes, ss_votes, ss_es, eql_int, neq_int, lss_int, gtr_int, geq_int, leq_int, splitK_dec, condK_dec, splitK_t, splitK_f, condK_t, condK_f, extA_0, extA_1, extA_2, not_bool, Bool.not_true, Bool.not_false, neq_nn, neq_in, eql_nn, eql_in, List.append_assoc, List.cons_append]
              have hg : SGd { s with n := { s.n with votes := s.n.votes ++ [m.frm] }, vn := false } := ⟨⟨⟨⟨h.w.n.ln, h.w.n.lm⟩, (fun h => by cases h), h.w.en, h.w.out⟩, h.lg, h.sl⟩, h.id0, h.id1, h.nx, h.mt, h.c0, h.c1⟩
              exact msg_S19 hg hE (by simp; omega) (by show s.out.length < _; omega) P R [mrow m, .dead]
        · rw [if_neg r1, if_neg r1]
          exact endB_n1 [_] rfl
      · rw [if_neg k2, if_neg k2]
        by_cases k3 : m.kind = 3
        · rw [if_pos k3, if_pos k3]
          simp -implicitDefEqProofs only [lm_all wm, Option.bind_some]
          rw [appMK h.toSGd wm hi0 hi1 he (by omega) hd (by omega)]
          exact endB_n1 [_] rfl
        · rw [if_neg k3, if_neg k3]
          by_cases k5 : m.kind = 5
          · rw [if_pos k5, if_pos k5]
            simp -implicitDefEqProofs only [lm_all wm, Option.bind_some]
            rw [snapK h.toSGd wm hml (by omega)]
            exact endB_n1 [_] rfl
          · rw [if_neg k5, if_neg k5]
            by_cases k4 : m.kind = 4
            · rw [if_pos k4, if_pos k4]
              by_cases r2 : s.n.role = 2
              · rw [if_pos r2, if_pos r2]
                simp -implicitDefEqProofs only [nilA_ptr, offA_ptr, Option.bind_some, Nat.zero_add, Nat.add_zero, Nat.reduceAdd, hp_len, hp_app, List.append_nil, List.nil_append, ls_id, ls_term, ls_voted, ls_role, ls_leader, ls_index, ls_lterm, ls_mems, ls_es, ls_commit, ls_votes, ls_log, ls_base, ss_term, ss_voted, ss_role, ss_leader, ss_commit, ss_novotes, ss_votes, ss_es, eql_int, neq_int, lss_int, gtr_int, geq_int, leq_int, splitK_dec, condK_dec, splitK_t, splitK_f, condK_t, condK_f, extA_0, extA_1, extA_2, not_bool, Bool.not_true, Bool.not_false, neq_nn, neq_in, eql_nn, eql_in, List.append_assoc, List.cons_append, lm_kind, lm_frm, lm_to, lm_term, lm_index, lm_lterm, lm_commit, lm_ok, lm_es, lm_mems, membersK h.toSOk, drawK_True, callD_ok (show goodL [ints (memsS s), AV.int .i64 m.frm] = true from by simp [goodL, AV.good]) (confHas_ok _ _ h.ml)]
                cases hh : hasF (memsS s) m.frm with
                | true =>
                  simp -implicitDefEqProofs only [nilA_ptr, offA_ptr, Option.bind_some, Nat.zero_add, Nat.add_zero, Nat.reduceAdd, hp_len, hp_app, List.append_nil, List.nil_append, ls_id, ls_term, ls_voted, ls_role, ls_leader, ls_index, ls_lterm, ls_mems, ls_es, ls_commit, ls_votes, ls_log, ls_base, ss_term, ss_voted, ss_role, ss_leader, ss_commit, ss_novotes, ss_votes, ss_es, eql_int, neq_int, lss_int, gtr_int, geq_int, leq_int, splitK_dec, condK_dec, splitK_t, splitK_f, condK_t, condK_f, extA_0, extA_1, extA_2, not_bool, Bool.not_true, Bool.not_false, neq_nn, neq_in, eql_nn, eql_in, List.append_assoc, List.cons_append, if_true, lm_all wm]
                  rw [ackK h.toSGd wm f0 f7 hi0 hi1 (by omega)]
                  exact endB_n1 [_] rfl
                | false =>
                  simp -implicitDefEqProofs only [nilA_ptr, offA_ptr, Option.bind_some, Nat.zero_add, Nat.add_zero, Nat.reduceAdd, hp_len, hp_app, List.append_nil, List.nil_append, ls_id, ls_term, ls_voted, ls_role, ls_leader, ls_index, ls_lterm, ls_mems, ls_es, ls_commit, ls_votes, ls_log, ls_base, ss_term, ss_voted, ss_role, ss_leader, ss_commit, ss_novotes, ss_votes, ss_es, eql_int, neq_int, lss_int, gtr_int, geq_int, leq_int, splitK_dec, condK_dec, splitK_t, splitK_f, condK_t, condK_f, extA_0, extA_1, extA_2, not_bool, Bool.not_true, Bool.not_false, neq_nn, neq_in, eql_nn, eql_in, List.append_assoc, List.cons_append, Bool.false_eq_true, if_false]
                  exact endB_n1 [_] rfl
              · rw [if_neg r2, if_neg r2]
                exact endB_n1 [_] rfl
            · rw [if_neg k4, if_neg k4]
              exact endB_n1 [_] rfl
theorem inF_iff {a b c : Int} : inF a b c = true ↔ b ≤ a ∧ a ≤ c := by simp [inF]
theorem newT_fu {s : Stp} (h : SFu s) {m : Msg} (ht : s.n.term < m.term) (h1 : m.term ≤ most) : SFu (newT s m) :=
  { toSGd := ⟨⟨⟨⟨h.w.n.ln, h.w.n.lm⟩, (fun _ => rfl), h.w.en, h.w.out⟩, h.lg, h.sl⟩, h.id0, h.id1, h.nx, h.mt, h.c0, h.c1⟩
    t0 := by have := h.t0; show termL s.n.log (lastL s.n.log) ≤ m.term; omega
    t00 := by have := h.t00; show 0 ≤ m.term; omega
    t1 := h1
    k0 := h.k0
    k1 := h.k1
    vl := by show ([] : List Int).length < 2^39; simp
    el := h.el
    tr := .inr rfl }
set_option maxHeartbeats 2000000 in
theorem msg_m {s : Stp} (h : SFu s) {m : Msg} (wm : m.wf) (he : m.es.length < 2^39) (hd : lightP m.es) (hml : m.mems.length < 2^40) (ho : s.out.length < 700000) : Meth n_raft_stepper_msg [m.av] s (.tup []) (msgF s m) := fun P R => by
  refine raft_stepper_msg_of ?_
  dsimp only
  have hmo : most = 1152921504606846976 := rfl
  rw [new_m wm]
  unfold msgF validM
  simp -implicitDefEqProofs only [nilA_ptr, offA_ptr, Option.bind_some, Nat.zero_add, Nat.add_zero, Nat.reduceAdd, hp_len, hp_app, List.append_nil, List.nil_append, ls_id, ls_term, ls_voted, ls_role, ls_leader, ls_index, ls_lterm, ls_mems, ls_es, ls_commit, ls_votes, ls_log, ls_base, ss_term, ss_voted, ss_role, ss_leader, ss_commit, ss_novotes, ss_votes, ss_es, eql_int, neq_int, lss_int, gtr_int, geq_int, leq_int, splitK_dec, condK_dec, splitK_t, splitK_f, condK_t, condK_f, extA_0, extA_1, extA_2, not_bool, Bool.not_true, Bool.not_false, neq_nn, neq_in, eql_nn, eql_in, List.append_assoc, List.cons_append, lm_kind, lm_frm, lm_to, lm_term, lm_index, lm_lterm, lm_commit, lm_ok, lm_es, lm_mems, inD]
  by_cases h1 : m.to = s.n.id
  · rw [show decide (m.to = s.n.id) = true from decide_eq_true h1]
    simp -implicitDefEqProofs only [nilA_ptr, offA_ptr, Option.bind_some, Nat.zero_add, Nat.add_zero, Nat.reduceAdd, hp_len, hp_app, List.append_nil, List.nil_append, ls_id, ls_term, ls_voted, ls_role, ls_leader, ls_index, ls_lterm, ls_mems, ls_es, ls_commit, ls_votes, ls_log, ls_base, ss_term, ss_voted, ss_role, ss_leader, ss_commit, ss_novotes, ss_votes, ss_es, eql_int, neq_int, lss_int, gtr_int, geq_int, leq_int, splitK_dec, condK_dec, splitK_t, splitK_f, condK_t, condK_f, extA_0, extA_1, extA_2, not_bool, Bool.not_true, Bool.not_false, neq_nn, neq_in, eql_nn, eql_in, List.append_assoc, List.cons_append, Bool.true_and]
    by_cases h2 : m.frm = s.n.id
    · rw [if_pos h2, show decide (m.frm = s.n.id) = true from decide_eq_true h2]
      simp only [Bool.not_true, Bool.false_and, Bool.false_eq_true, if_false]
      exact endB_n1 [_] rfl
    · rw [if_neg h2, show decide (m.frm = s.n.id) = false from decide_eq_false h2]
      simp only [Bool.not_false, Bool.true_and]
      cases h3 : inF m.frm 1 7 with
      | false =>
        simp -implicitDefEqProofs only [nilA_ptr, offA_ptr, Option.bind_some, Nat.zero_add, Nat.add_zero, Nat.reduceAdd, hp_len, hp_app, List.append_nil, List.nil_append, ls_id, ls_term, ls_voted, ls_role, ls_leader, ls_index, ls_lterm, ls_mems, ls_es, ls_commit, ls_votes, ls_log, ls_base, ss_term, ss_voted, ss_role, ss_leader, ss_commit, ss_novotes, ss_votes, ss_es, eql_int, neq_int, lss_int, gtr_int, geq_int, leq_int, splitK_dec, condK_dec, splitK_t, splitK_f, condK_t, condK_f, extA_0, extA_1, extA_2, not_bool, Bool.not_true, Bool.not_false, neq_nn, neq_in, eql_nn, eql_in, List.append_assoc, List.cons_append, Bool.false_and, Bool.false_eq_true, if_false]
        exact endB_n1 [_] rfl
      | true =>
        simp -implicitDefEqProofs only [nilA_ptr, offA_ptr, Option.bind_some, Nat.zero_add, Nat.add_zero, Nat.reduceAdd, hp_len, hp_app, List.append_nil, List.nil_append, ls_id, ls_term, ls_voted, ls_role, ls_leader, ls_index, ls_lterm, ls_mems, ls_es, ls_commit, ls_votes, ls_log, ls_base, ss_term, ss_voted, ss_role, ss_leader, ss_commit, ss_novotes, ss_votes, ss_es, eql_int, neq_int, lss_int, gtr_int, geq_int, leq_int, splitK_dec, condK_dec, splitK_t, splitK_f, condK_t, condK_f, extA_0, extA_1, extA_2, not_bool, Bool.not_true, Bool.not_false, neq_nn, neq_in, eql_nn, eql_in, List.append_assoc, List.cons_append, Bool.true_and]
        cases h4 : inF m.term 1 1152921504606846976 with
        | false =>
          simp -implicitDefEqProofs only [nilA_ptr, offA_ptr, Option.bind_some, Nat.zero_add, Nat.add_zero, Nat.reduceAdd, hp_len, hp_app, List.append_nil, List.nil_append, ls_id, ls_term, ls_voted, ls_role, ls_leader, ls_index, ls_lterm, ls_mems, ls_es, ls_commit, ls_votes, ls_log, ls_base, ss_term, ss_voted, ss_role, ss_leader, ss_commit, ss_novotes, ss_votes, ss_es, eql_int, neq_int, lss_int, gtr_int, geq_int, leq_int, splitK_dec, condK_dec, splitK_t, splitK_f, condK_t, condK_f, extA_0, extA_1, extA_2, not_bool, Bool.not_true, Bool.not_false, neq_nn, neq_in, eql_nn, eql_in, List.append_assoc, List.cons_append, Bool.false_and, Bool.false_eq_true, if_false]
          exact endB_n1 [_] rfl
        | true =>
          simp -implicitDefEqProofs only [nilA_ptr, offA_ptr, Option.bind_some, Nat.zero_add, Nat.add_zero, Nat.reduceAdd, hp_len, hp_app, List.append_nil, List.nil_append, ls_id, ls_term, ls_voted, ls_role, ls_leader, ls_index, ls_lterm, ls_mems, ls_es, ls_commit, ls_votes, ls_log, ls_base, ss_term, ss_voted, ss_role, ss_leader, ss_commit, ss_novotes, ss_votes, ss_es, eql_int, neq_int, lss_int, gtr_int, geq_int, leq_int, splitK_dec, condK_dec, splitK_t, splitK_f, condK_t, condK_f, extA_0, extA_1, extA_2, not_bool, Bool.not_true, Bool.not_false, neq_nn, neq_in, eql_nn, eql_in, List.append_assoc, List.cons_append, Bool.true_and]
          cases h5 : inF m.index 0 1152921504606846976 with
          | false =>
            simp -implicitDefEqProofs only [nilA_ptr, offA_ptr, Option.bind_some, Nat.zero_add, Nat.add_zero, Nat.reduceAdd, hp_len, hp_app, List.append_nil, List.nil_append, ls_id, ls_term, ls_voted, ls_role, ls_leader, ls_index, ls_lterm, ls_mems, ls_es, ls_commit, ls_votes, ls_log, ls_base, ss_term, ss_voted, ss_role, ss_leader, ss_commit, ss_novotes, ss_votes, ss_es, eql_int, neq_int, lss_int, gtr_int, geq_int, leq_int, splitK_dec, condK_dec, splitK_t, splitK_f, condK_t, condK_f, extA_0, extA_1, extA_2, not_bool, Bool.not_true, Bool.not_false, neq_nn, neq_in, eql_nn, eql_in, List.append_assoc, List.cons_append, Bool.false_and, Bool.false_eq_true, if_false]
            exact endB_n1 [_] rfl
          | true =>
            simp -implicitDefEqProofs only [nilA_ptr, offA_ptr, Option.bind_some, Nat.zero_add, Nat.add_zero, Nat.reduceAdd, hp_len, hp_app, List.append_nil, List.nil_append, ls_id, ls_term, ls_voted, ls_role, ls_leader, ls_index, ls_lterm, ls_mems, ls_es, ls_commit, ls_votes, ls_log, ls_base, ss_term, ss_voted, ss_role, ss_leader, ss_commit, ss_novotes, ss_votes, ss_es, eql_int, neq_int, lss_int, gtr_int, geq_int, leq_int, splitK_dec, condK_dec, splitK_t, splitK_f, condK_t, condK_f, extA_0, extA_1, extA_2, not_bool, Bool.not_true, Bool.not_false, neq_nn, neq_in, eql_nn, eql_in, List.append_assoc, List.cons_append, Bool.true_and]
            cases h6 : inF m.lterm 0 1152921504606846976 with
            | false =>
              simp -implicitDefEqProofs only [nilA_ptr, offA_ptr, Option.bind_some, Nat.zero_add, Nat.add_zero, Nat.reduceAdd, hp_len, hp_app, List.append_nil, List.nil_append, ls_id, ls_term, ls_voted, ls_role, ls_leader, ls_index, ls_lterm, ls_mems, ls_es, ls_commit, ls_votes, ls_log, ls_base, ss_term, ss_voted, ss_role, ss_leader, ss_commit, ss_novotes, ss_votes, ss_es, eql_int, neq_int, lss_int, gtr_int, geq_int, leq_int, splitK_dec, condK_dec, splitK_t, splitK_f, condK_t, condK_f, extA_0, extA_1, extA_2, not_bool, Bool.not_true, Bool.not_false, neq_nn, neq_in, eql_nn, eql_in, List.append_assoc, List.cons_append, Bool.false_and, Bool.false_eq_true, if_false]
              exact endB_n1 [_] rfl
            | true =>
              simp -implicitDefEqProofs only [nilA_ptr, offA_ptr, Option.bind_some, Nat.zero_add, Nat.add_zero, Nat.reduceAdd, hp_len, hp_app, List.append_nil, List.nil_append, ls_id, ls_term, ls_voted, ls_role, ls_leader, ls_index, ls_lterm, ls_mems, ls_es, ls_commit, ls_votes, ls_log, ls_base, ss_term, ss_voted, ss_role, ss_leader, ss_commit, ss_novotes, ss_votes, ss_es, eql_int, neq_int, lss_int, gtr_int, geq_int, leq_int, splitK_dec, condK_dec, splitK_t, splitK_f, condK_t, condK_f, extA_0, extA_1, extA_2, not_bool, Bool.not_true, Bool.not_false, neq_nn, neq_in, eql_nn, eql_in, List.append_assoc, List.cons_append, Bool.true_and]
              cases h7 : inF m.commit 0 1152921504606846976 with
              | false =>
                simp -implicitDefEqProofs only [nilA_ptr, offA_ptr, Option.bind_some, Nat.zero_add, Nat.add_zero, Nat.reduceAdd, hp_len, hp_app, List.append_nil, List.nil_append, ls_id, ls_term, ls_voted, ls_role, ls_leader, ls_index, ls_lterm, ls_mems, ls_es, ls_commit, ls_votes, ls_log, ls_base, ss_term, ss_voted, ss_role, ss_leader, ss_commit, ss_novotes, ss_votes, ss_es, eql_int, neq_int, lss_int, gtr_int, geq_int, leq_int, splitK_dec, condK_dec, splitK_t, splitK_f, condK_t, condK_f, extA_0, extA_1, extA_2, not_bool, Bool.not_true, Bool.not_false, neq_nn, neq_in, eql_nn, eql_in, List.append_assoc, List.cons_append, Bool.false_eq_true, if_false]
                exact endB_n1 [_] rfl
              | true =>
                simp -implicitDefEqProofs only [nilA_ptr, offA_ptr, Option.bind_some, Nat.zero_add, Nat.add_zero, Nat.reduceAdd, hp_len, hp_app, List.append_nil, List.nil_append, ls_id, ls_term, ls_voted, ls_role, ls_leader, ls_index, ls_lterm, ls_mems, ls_es, ls_commit, ls_votes, ls_log, ls_base, ss_term, ss_voted, ss_role, ss_leader, ss_commit, ss_novotes, ss_votes, ss_es, eql_int, neq_int, lss_int, gtr_int, geq_int, leq_int, splitK_dec, condK_dec, splitK_t, splitK_f, condK_t, condK_f, extA_0, extA_1, extA_2, not_bool, Bool.not_true, Bool.not_false, neq_nn, neq_in, eql_nn, eql_in, List.append_assoc, List.cons_append, lm_kind, lm_frm, lm_to, lm_term, lm_index, lm_lterm, lm_commit, lm_ok, lm_es, lm_mems, if_true]
                have i3 := inF_iff.1 h3; have i4 := inF_iff.1 h4; have i5 := inF_iff.1 h5
                by_cases ht : s.n.term < m.term
                · rw [if_pos ht, if_pos ht]
                  exact msg_S5 (newT_fu h ht (by omega)) wm i3.1 i3.2 i4.1 (show m.term ≤ m.term from Int.le_refl _) i5.1 (by omega) he hd hml ho P R
                · rw [if_neg ht, if_neg ht]
                  exact msg_S5 h wm i3.1 i3.2 i4.1 (by omega) i5.1 (by omega) he hd hml ho P R
  · rw [show decide (m.to = s.n.id) = false from decide_eq_false h1]
    simp -implicitDefEqProofs only [nilA_ptr, offA_ptr, Option.bind_some, Nat.zero_add, Nat.add_zero, Nat.reduceAdd, hp_len, hp_app, List.append_nil, List.nil_append, ls_id, ls_term, ls_voted, ls_role, ls_leader, ls_index, ls_lterm, ls_mems, ls_es, ls_commit, ls_votes, ls_log, ls_base, ss_term, ss_voted, ss_role, ss_leader, ss_commit, ss_novotes, ss_votes, ss_es, eql_int, neq_int, lss_int, gtr_int, geq_int, leq_int, splitK_dec, condK_dec, splitK_t, splitK_f, condK_t, condK_f, extA_0, extA_1, extA_2, not_bool, Bool.not_true, Bool.not_false, neq_nn, neq_in, eql_nn, eql_in, List.append_assoc, List.cons_append, Bool.false_and, Bool.false_eq_true, if_false]
    exact endB_n1 [_] rfl
theorem msgK {s : Stp} (h : SFu s) {m : Msg} (wm : m.wf) (he : m.es.length < 2^39) (hd : lightP m.es) (hml : m.mems.length < 2^40) (ho : s.out.length < 700000) {β : Type} {P R : List AObj} {K : AV → List AObj → List Nat → Option β} : callK (EV C) false n_raft_stepper_msg [.ptr (P.length + 1) 1 0 0, m.av] (hp P s R) K = K (.tup []) (hp P (msgF s m) R) [] := (msg_m h wm he hd hml ho).call0 (by simp [goodL, Msg.avgood wm])
end Go.Pm
namespace Go.Pm
open Go.Proofs
set_option linter.unusedVariables false
set_option linter.unusedSimpArgs false
structure Inp where
  kind : Int
  draw : Int
  index : Int
  msg : Msg
  data : List UInt8
  mems : List Int
def Inp.cs (x : Inp) : List AV := [.int .i64 x.kind, .int .i64 x.draw, .int .i64 x.index] ++ (x.msg.cs ++ [bys x.data, ints x.mems])
def Inp.av (x : Inp) : AV := .agg x.cs
def Inp.row (x : Inp) : AObj := .row 22 [x.av]
theorem Inp.cslen {x : Inp} (w : x.msg.wf) : x.cs.length = 22 := by simp [Inp.cs, Msg.cslen w]
theorem Inp.csone {x : Inp} (w : x.msg.wf) : x.cs.all AV.one = true := by
  unfold Inp.cs
  simp only [List.all_append, Msg.csone w]
  simp [AV.one, ints, bys]
theorem Inp.good {x : Inp} (w : x.msg.wf) : x.av.good = true := by
  have := Msg.avgood w
  unfold Msg.av at this
  simp only [AV.good] at this
  unfold Inp.av Inp.cs
  simp only [AV.good, goodL_append, this]
  simp [goodL, AV.good]
def zN : AV := .agg [(.int .i64 0), (.int .i64 0), (.int .i64 0), (.int .i64 0), (.int .i64 0), (.int .i64 0), (.int .i64 0), .nils, .nils, (.int .i64 0), .nils, (.int .i64 0), (.int .i64 0), (.int .i64 0), (.int .i64 0), (.int .i64 0), (.int .i64 0), (.int .i64 0), (.int .i64 0), (.int .i64 0), (.int .i64 0), (.int .i64 0), (.int .i64 0), (.int .i64 0), (.int .i64 0), (.int .i64 0), (.int .i64 0), (.int .i64 0), (.int .i64 0)]
def noNde : Nde := ⟨0, 0, 0, 0, 0, noLog, 0, [], List.replicate 8 0, List.replicate 8 0, 0, 0⟩
def P3 (n : Nde) (x : Inp) (z : AV) : List AObj := [n.row, x.row, .row 29 [z]]
def Stp.nav (s : Stp) : AV := .agg (s.hd ++ (s.n.next.map i64 ++ (s.n.mtch.map i64 ++ [.int .i64 s.n.ticks, .int .i64 s.n.timeout])))
theorem nav_len {s : Stp} (w : s.n.wf) : s.nav.cells.length = 29 := by
  show (s.hd ++ _).length = 29
  simp [Stp.hd, w.ln, w.lm]
theorem nav_one {s : Stp} : s.nav.cells.all AV.one = true := by
  show (s.hd ++ _).all AV.one = true
  simp only [List.all_append, one_i64, Stp.hd, List.all_cons, List.all_nil, one_eav, one_vav]
  rfl
theorem bel_vav {s : Stp} (m : Nat) : s.vav.bel m = true := by
  unfold Stp.vav nilv; split
  · rfl
  · exact bel_good m _ (good_ints _)
theorem belL_app (m : Nat) (a b : List AV) : belL m (a ++ b) = (belL m a && belL m b) := by
  induction a with
  | nil => rfl
  | cons x a ih => simp only [List.cons_append, belL, ih, Bool.and_assoc]
theorem nav_bel {s : Stp} (m : Nat) : belL m s.nav.cells = true := by
  show belL m (s.hd ++ _) = true
  simp only [belL_app, belL_good m _ (goodL_i64 _)]
  simp [Stp.hd, belL, AV.bel, bel_eav, bel_vav, bel_good m _ (good_ints _)]
theorem frzL_app (H : List AObj) {a b a' b' : List AV} (h1 : frzL H a = some a') (h2 : frzL H b = some b') : frzL H (a ++ b) = some (a' ++ b') := by
  induction a generalizing a' with
  | nil => simp only [frzL, Option.some.injEq] at h1; subst h1; exact h2
  | cons x a ih =>
    simp only [frzL, Option.bind_eq_some_iff, Option.map_eq_some_iff] at h1
    obtain ⟨c, hc, ds, hds, rfl⟩ := h1
    exact frzL_cons hc (ih hds)
theorem frz_nav {s : Stp} (w : s.wf) (H : List AObj) : frz H s.nav = some s.n.av := by
  have h1 : frzL H s.hd = some [.int .i64 s.n.id, .int .i64 s.n.term, .int .i64 s.n.voted, .int .i64 s.n.role, .int .i64 s.n.leader, .int .i64 s.n.log.index, .int .i64 s.n.log.term, ints s.n.log.mems, ents s.n.log.es, .int .i64 s.n.commit, ints s.n.votes] := by
    unfold Stp.hd
    simp only [frzL, frz_eav w, frz_vav w, frz_good H _ (good_ints _), Option.bind_some, Option.map_some]
    rfl
  have h2 : frzL H (s.n.next.map i64 ++ (s.n.mtch.map i64 ++ [.int .i64 s.n.ticks, .int .i64 s.n.timeout])) = some (s.n.next.map i64 ++ (s.n.mtch.map i64 ++ [.int .i64 s.n.ticks, .int .i64 s.n.timeout])) := frzL_good H _ (by simp only [goodL_append, goodL_i64]; simp [goodL, AV.good])
  unfold Stp.nav
  rw [frz_agg (frzL_app H h1 h2)]
  rfl
section
variable {n : Nde} {x : Inp} {z : AV} {s : Stp} {R : List AObj}
theorem l4_all (w : s.n.wf) : loadA true 29 (.ptr 4 1 0 0) (hp (P3 n x z) s R) = some s.nav := by
  have h : (hp (P3 n x z) s R)[4]? = some (srow 3 s) := hp_S (P3 n x z) s R
  rw [ld_aggp (cs := s.cs 3) h (by simp [Stp.cs, Stp.hd, w.ln, w.lm])]
  have e : s.cs 3 = (s.hd ++ (s.n.next.map i64 ++ (s.n.mtch.map i64 ++ [.int .i64 s.n.ticks, .int .i64 s.n.timeout]))) ++ [.slc 3 0 s.out.length s.out.length, .int .i64 s.num] := by simp [Stp.cs]
  rw [List.drop_zero, e, List.take_left' (by simp [Stp.hd, w.ln, w.lm])]
  rfl
theorem l4_out (w : s.n.wf) : loadA false 1 (.ptr 4 1 0 29) (hp (P3 n x z) s R) = some (.slc 3 0 s.out.length s.out.length) := ls_out (P := P3 n x z) w
theorem l4_num (w : s.n.wf) : loadA false 1 (.ptr 4 1 0 30) (hp (P3 n x z) s R) = some (.int .i64 s.num) := ls_num (P := P3 n x z) w
theorem l2_all (w : s.n.wf) : loadA true 29 (.ptr 2 1 0 0) (hp (P3 n x s.nav) s R) = some s.nav := by
  have h : (hp (P3 n x s.nav) s R)[2]? = some (.row 29 [s.nav]) := rfl
  rw [ld_aggp (cs := s.nav.cells) h (by rw [List.drop_zero, nav_len w]; exact Nat.le_refl _), List.drop_zero, List.take_of_length_le (by rw [nav_len w]; exact Nat.le_refl _)]
  rfl
theorem s2_all (w : s.n.wf) (zc : List AV) (hz : zc.length = 29) {β : Type} {K : List AObj → List Nat → Option β} : stoK 29 (.ptr 2 1 0 0) s.nav (hp (P3 n x (.agg zc)) s R) K = K (hp (P3 n x s.nav) s R) [] := by
  have h : (hp (P3 n x (.agg zc)) s R)[2]? = some (.row 29 [.agg zc]) := rfl
  rw [sto_row (n := 29) h (nav_len w) nav_one (nav_bel _) (by omega)]
  have e : zc.take 0 ++ s.nav.cells ++ zc.drop (0 + 29) = s.nav.cells := by
    rw [List.take_zero, List.nil_append, List.drop_of_length_le (by omega), List.append_nil]
  rw [e]; rfl
/-- what a step answers -/
def Stp.res (s : Stp) : AV := .tup [s.n.av, .lst (s.out.map Msg.av), .int .i64 s.num, .nili]
theorem goodL_out (w : s.wf) : goodL (s.out.map Msg.av) = true := goodL_all.2 fun v hv => by
  obtain ⟨m, hm, rfl⟩ := List.mem_map.1 hv
  exact Msg.avgood (w.out m hm)
theorem res_end (w : s.wf) : endB false false 0 (.tup [s.nav, .slc 3 0 s.out.length s.out.length, .int .i64 s.num, .nili]) (hp (P3 n x s.nav) s R) [] = some (s.res, [], []) := by
  have ho : frz (hp (P3 n x s.nav) s R) (.slc 3 0 s.out.length s.out.length) = some (.lst (s.out.map Msg.av)) := frz_vro (z := 17) (hp_O (P3 n x s.nav) s R) (by simp) (goodL_out w)
  refine endB_frz (frz_tup (frzL_cons (frz_nav w _) (frzL_cons ho (frzL_cons rfl (frzL_cons rfl rfl))))) ?_
  simp only [Stp.res, AV.good, goodL, Nde.good, goodL_out w, Bool.and_self]
end
/-- what it does in a step -/
def Stp.new (n : Nde) : Stp := ⟨n, false, false, [], 0⟩
def compF (s : Stp) (i : Int) : Stp := { s with n := { s.n with log := compactL s.n.log i }, num := i, en := false }
def stepF (n : Nde) (x : Inp) : Stp :=
  let s := Stp.new n
  if x.kind = 0 then tickF s x.draw
  else if x.kind = 1 then msgF s x.msg
  else if x.kind = 2 then (if n.role = 2 then (if (x.data.length : Int) ≤ 4096 then (if lastS s < most then proposeF s 1 x.data else s) else s) else s)
  else if x.kind = 3 then changeF s x.mems
  else if x.kind = 4 then (if n.log.index < x.index then (if x.index ≤ n.commit then compF s x.index else s) else s)
  else s
def stepA (n : Nde) (x : Inp) : AV := if soundN n = true then (stepF n x).res else .tup [noNde.av, .lst [], .int .i64 0, codeA 3]
theorem findIdx_app {l : List AV} {v : AV} {r : List AV} (h : l.all (fun a => !isNils a) = true) (hv : isNils v = true) : (l ++ v :: r).findIdx? isNils = some l.length := by
  induction l with
  | nil => simp [List.findIdx?_cons, hv]
  | cons a l ih =>
    simp only [List.all_cons, Bool.and_eq_true, Bool.not_eq_true'] at h
    simp only [List.cons_append, List.findIdx?_cons, h.1, Bool.false_eq_true, if_false, List.length_cons]
    rw [ih (by simpa using h.2)]; rfl
theorem nonil_i64 (l : List Int) : (l.map i64).all (fun a => !isNils a) = true := by
  rw [List.all_map]; exact List.all_eq_true.2 fun x _ => rfl
end Go.Pm
namespace Go.Pm
open Go.Proofs
set_option linter.unusedVariables false
set_option linter.unusedSimpArgs false
theorem allF_wf {s : Stp} (h : s.wf) : (allF s).wf := others_wf (bringM s.n) (bringM_wf _) _ s h
theorem leadsF_wf {s : Stp} (h : SGd s) (he : EOk s.n 0 []) : (leadsF s).wf := allF_wf (countsF_gd (addF_gd (s := resetF s) (resetF_gd h) he)).w
theorem standsF_wf {s : Stp} (h : SGd s) (d : Int) (ht : termL s.n.log (lastL s.n.log) ≤ s.n.term) (h0 : 0 ≤ s.n.term) (h1 : s.n.term < most) (hl : s.n.log.es.length + 1 < 2^40) : (standsF s d).wf := by
  have hc := candF_gd h d
  unfold standsF
  dsimp only
  split
  · refine leadsF_wf hc ⟨?_, ?_, ?_, by decide, by decide, fun h => absurd h (by decide), by decide, hl⟩
    · show termL s.n.log (lastL s.n.log) ≤ s.n.term + 1; omega
    · show 1 ≤ s.n.term + 1; omega
    · show s.n.term + 1 ≤ most; omega
  · exact others_wf _ (fun _ => askM_wf _) _ _ hc.w
theorem tickF_wf {s : Stp} (h : SFu s) (d : Int) : (tickF s d).wf := by
  have hg : SGd (ticksF s) := h.toSGd.ticks _
  unfold tickF
  dsimp only
  split
  · split
    · exact allF_wf (hg.ticks 0).w
    · exact hg.w
  · split
    · split
      · split
        · exact standsF_wf hg d h.t0 h.t00 (by assumption) (by have := h.el; show s.n.log.es.length + 1 < _; omega)
        · exact hg.w
      · exact hg.w
    · exact hg.w
theorem proposeF_wf {s : Stp} (h : SGd s) {kind : Int} {data : List UInt8} (he : EOk s.n kind data) : (proposeF s kind data).wf := allF_wf (countsF_gd (numF_gd (addF_gd h he))).w
theorem newF_gd (m : List Int) : ∀ (l : List Int) (s : Stp), SGd s → lastS s < most → SGd (newF m s l) ∧ (newF m s l).n.log = s.n.log ∧ (newF m s l).n.term = s.n.term ∧ (newF m s l).out = s.out
  | [], s, h, _ => ⟨h, rfl, rfl, rfl⟩
  | x :: l, s, h, hl => by
    have hla := h.last
    by_cases hx : hasF m x = true
    · rw [newF_has hx]; exact newF_gd m l s h hl
    · rw [newF_not hx]
      have := newF_gd m l _ ((h.setMtch x.toNat 0 (Int.le_refl _) (by omega)).setNext x.toNat (lastS s + 1) (by omega) (by omega)) hl
      exact ⟨this.1, this.2.1, this.2.2.1, this.2.2.2⟩
theorem eok_change {s : Stp} (h : SFu s) (hr : s.n.role = 2) {l : List Int} (hml : mayL l = true) : EOk s.n 2 (byL l) := by
  have ht0 := h.t0; have ht1 := h.t1; have hel := h.el
  have htr : 0 < s.n.term := by rcases h.tr with h | h <;> omega
  refine ⟨ht0, by omega, ht1, by decide, by decide, fun _ => ?_, ?_, by omega⟩
  · rw [ofB_byL (may_mem hml)]; exact hml
  · have := may_len hml; simp [byL]; omega
theorem changeF_wf {s : Stp} (h : SFu s) (l : List Int) : (changeF s l).wf := by
  unfold changeF
  split
  · rename_i hr
    split
    · split
      · split
        · exact h.w
        · rename_i hls
          split
          · split
            · exact h.w
            · split
              · rename_i hml
                have hn := newF_gd (memsS s) l s h.toSGd (by omega)
                refine proposeF_wf hn.1 ?_
                have he := eok_change h hr hml
                unfold EOk at he ⊢
                rw [hn.2.1, hn.2.2.1]
                exact he
              · exact h.w
          · exact h.w
      · exact h.w
    · exact h.w
  · exact h.w
theorem askF_wf {s : Stp} (h : s.wf) (m : Msg) : (askF s m).wf := by
  unfold askF
  dsimp only
  refine sendF_wf ?_ (tail0_wf rfl) _
  split
  · exact ⟨⟨h.n.ln, h.n.lm⟩, h.vn, h.en, h.out⟩
  · exact h
theorem appB_wf {f : Stp} (h : f.wf) (m : Msg) (p : Int) (e : List Ent) : (appB f m p e).wf := by
  unfold appB
  dsimp only
  split
  · split
    · exact h
    · split
      · exact h
      · refine sendF_wf ?_ (tail0_wf rfl) _
        exact ⟨⟨h.n.ln, h.n.lm⟩, h.vn, (fun h => by cases h), h.out⟩
  · exact h
theorem followF_wf {s : Stp} (h : s.wf) (frm : Int) : (followF s frm).wf := ⟨⟨h.n.ln, h.n.lm⟩, fun _ => rfl, h.en, h.out⟩
theorem appF_wf {s : Stp} (h : s.wf) (m : Msg) : (appF' s m).wf := by
  have hf := followF_wf h m.frm
  unfold appF'
  dsimp only
  split
  · exact h
  · split
    · exact appB_wf hf _ _ _
    · split
      · split
        · exact appB_wf hf _ _ _
        · exact sendF_wf hf (tail0_wf rfl) _
      · exact sendF_wf hf (tail0_wf rfl) _
theorem snapF_wf {s : Stp} (h : s.wf) (m : Msg) : (snapF s m).wf := by
  have hf := followF_wf h m.frm
  unfold snapF
  dsimp only
  split
  · exact h
  · split
    · split
      · exact h
      · split
        · exact sendF_wf hf (tail0_wf rfl) _
        · unfold snapE
          split
          · have hs : ({ followF s m.frm with n := { (followF s m.frm).n with log := snapL s.n m, commit := m.index }, en := !snapKeep s.n m } : Stp).wf := by
              refine ⟨⟨h.n.ln, h.n.lm⟩, fun _ => rfl, fun hk => ?_, h.out⟩
              show (snapL s.n m).es = []
              unfold snapL
              rw [if_neg (by simpa using hk)]
            have := sendF_wf (m := { msg0 4 with ok := true, index := m.index }) hs (tail0_wf rfl) m.frm
            exact ⟨this.n, this.vn, this.en, this.out⟩
          · exact hf
    · exact h
theorem ackF_wf {s : Stp} (h : SGd s) {m : Msg} (h0 : 1 ≤ m.frm) (h7 : m.frm ≤ 7) (hi0 : 0 ≤ m.index) (hi1 : m.index ≤ most) : (ackF s m).wf := by
  have h8 : m.frm.toNat < 8 := by omega
  unfold ackF
  dsimp only
  split
  · split
    · exact h.w
    · have hc := countsF_gd (fwdF_gd (gotF_gd h m h8 hi0 hi1) m h8)
      split
      · split
        · exact sendF_wf hc.w (bringM_wf _ _) _
        · exact hc.w
      · exact hc.w
  · exact sendF_wf (backF_gd h m (by omega) (by omega)).w (bringM_wf _ _) _
theorem voteF_gd {s : Stp} (h : SGd s) (m : Msg) : SGd (voteF s m) := by
  unfold voteF
  split
  · exact h
  · exact ⟨⟨⟨⟨h.w.n.ln, h.w.n.lm⟩, (fun h => by cases h), h.w.en, h.w.out⟩, h.lg, h.sl⟩, h.id0, h.id1, h.nx, h.mt, h.c0, h.c1⟩
theorem voteF_n (s : Stp) (m : Msg) : (voteF s m).n.log = s.n.log ∧ (voteF s m).n.term = s.n.term := by
  unfold voteF; split <;> exact ⟨rfl, rfl⟩
theorem hearF_wf {s : Stp} (h : SFu s) {m : Msg} (f0 : 1 ≤ m.frm) (f7 : m.frm ≤ 7) (mt : 1 ≤ m.term) (hmt : m.term ≤ s.n.term) (hi0 : 0 ≤ m.index) (hi1 : m.index ≤ most) : (hearF s m).wf := by
  have ht0 := h.t0; have ht1 := h.t1; have hel := h.el
  unfold hearF
  split
  · split
    · exact sendF_wf h.w (tail0_wf rfl) _
    · split
      · exact sendF_wf h.w (tail0_wf rfl) _
      · split
        · exact sendF_wf h.w (tail0_wf rfl) _
        · exact h.w
  · split
    · exact askF_wf h.w m
    · split
      · split
        · split
          · have hv := voteF_gd h.toSGd m
            have hvn := voteF_n s m
            unfold wonF
            split
            · refine leadsF_wf hv ?_
              unfold EOk
              rw [hvn.1, hvn.2]
              exact ⟨ht0, by omega, ht1, by decide, by decide, fun h => absurd h (by decide), by decide, by omega⟩
            · exact hv.w
          · exact h.w
        · exact h.w
      · split
        · exact appF_wf h.w m
        · split
          · exact snapF_wf h.w m
          · split
            · split
              · split
                · exact ackF_wf h.toSGd f0 f7 hi0 hi1
                · exact h.w
              · exact h.w
            · exact h.w
theorem msgF_wf {s : Stp} (h : SFu s) (m : Msg) : (msgF s m).wf := by
  have hmo : most = 1152921504606846976 := rfl
  unfold msgF
  split
  · rename_i hv
    simp only [validM, Bool.and_eq_true, inF_iff] at hv
    have ht := h.t1
    split
    · exact hearF_wf (newT_fu h (by assumption) (by omega)) hv.2.2.1.1 hv.2.2.1.2 hv.2.2.2.1.1 (Int.le_refl _) hv.2.2.2.2.1.1 (by omega)
    · exact hearF_wf h hv.2.2.1.1 hv.2.2.1.2 hv.2.2.2.1.1 (by omega) hv.2.2.2.2.1.1 (by omega)
  · exact h.w
structure StepIn (n : Nde) (x : Inp) : Prop where
  nw : n.wf
  m : x.msg.wf
  lg : LgOk n.log
  hv : n.votes.length < 2^39
  hes : n.log.es.length + 1 < 2^39
  he : x.msg.es.length < 2^39
  hd : lightP x.msg.es
  hml : x.msg.mems.length < 2^40
  hdata : x.data.length < 2^40
  hmems : x.mems.length < 2^60
theorem tabB_iff (n : Nde) : ∀ (m i : Nat), tabB n i m = true ↔ ∀ j, i ≤ j → j < i + m → cntF (n.next.getD j 0) = true ∧ cntF (n.mtch.getD j 0) = true
  | 0, i => by simp [tabB]; intro j h1 h2; omega
  | m + 1, i => by
    simp only [tabB, Bool.and_eq_true, tabB_iff n m (i + 1)]
    constructor
    · intro h j h1 h2
      rcases Nat.lt_or_ge i j with hlt | hge
      · exact h.2 j (by omega) (by omega)
      · have : j = i := by omega
        subst this; exact h.1
    · intro h
      exact ⟨h i (Nat.le_refl _) (by omega), fun j h1 h2 => h j (by omega) (by omega)⟩
theorem cntF_iff {a : Int} : cntF a = true ↔ 0 ≤ a ∧ a ≤ most := by unfold cntF; rw [inF_iff]; rfl
theorem chk_ge : ∀ {l : List Ent} {t : Int}, chkEs t l = true → ∀ e ∈ l, 1 ≤ e.term ∧ t ≤ e.term
  | [], t, h, e, he => by cases he
  | x :: l, t, h, e, he => by
    simp only [chkEs, Bool.and_eq_true] at h
    have h1 := h.1
    simp only [entOk, Bool.and_eq_true, decide_eq_true_eq] at h1
    rcases List.mem_cons.1 he with rfl | he
    · omega
    · have := chk_ge h.2 e he; omega
theorem sound_fu {n : Nde} {x : Inp} (h : StepIn n x) (hs : soundN n = true) : SFu (Stp.new n) := by
  simp only [soundN, Bool.and_eq_true, Bool.or_eq_true, decide_eq_true_eq, inF_iff, cntF_iff] at hs
  obtain ⟨sl, id, tm, vo, le, ro, tr, co, ti, to_, tb, vt⟩ := hs
  have hmo : most = 1152921504606846976 := rfl
  have htb := (tabB_iff n 8 0).1 tb
  have htl : 0 ≤ termL n.log (lastL n.log) := by
    simp only [soundL, Bool.and_eq_true, decide_eq_true_eq] at sl
    rw [termL_last]
    cases hg : n.log.es.getLast? with
    | none => show 0 ≤ n.log.term; omega
    | some e =>
      show 0 ≤ e.term
      have := chk_ge sl.2.2 e (List.mem_of_getLast? hg)
      omega
  exact { toSGd := ⟨⟨⟨h.nw, (fun h => by cases h), (fun h => by cases h), (fun m hm => by cases hm)⟩, h.lg, sl⟩, id.1, id.2, fun i hi => by have := (htb i (Nat.zero_le _) (by omega)).1; rw [cntF_iff] at this; exact this, fun i hi => by have := (htb i (Nat.zero_le _) (by omega)).2; rw [cntF_iff] at this; exact this, co.1, co.2⟩
          t0 := tm.1
          t00 := by show 0 ≤ n.term; omega
          t1 := by show n.term ≤ most; omega
          k0 := ti.1
          k1 := ti.2
          vl := h.hv
          el := h.hes
          tr := tr }
end Go.Pm
namespace Go.Pm
open Go.Proofs
set_option linter.unusedVariables false
set_option linter.unusedSimpArgs false
theorem new_agg0 {β : Type} {cs : List AV} {H : List AObj} {K : AV → List AObj → List Nat → Option β} (h0 : cs ≠ []) (h1 : cs.all AV.one = true) : newK (.agg cs) H K = K (.ptr H.length 1 0 0) (H ++ [.row cs.length [.agg cs]]) [] := by
  have : newA (.agg cs) H = some (.ptr H.length 1 0 0, H ++ [.row cs.length [.agg cs]], []) := by
    unfold newA
    rw [show (AV.agg cs).cells = cs from rfl, if_pos ⟨h0, h1⟩]
  unfold newK; rw [this]; rfl
theorem new_inp {β : Type} {x : Inp} (w : x.msg.wf) {H : List AObj} {K : AV → List AObj → List Nat → Option β} : newK x.av H K = K (.ptr H.length 1 0 0) (H ++ [x.row]) [] := by
  unfold Inp.av
  rw [new_agg0 (by intro e; have := Inp.cslen w; simp [e] at this) (Inp.csone w), Inp.cslen w]; rfl
theorem nonil_n (n : Nde) : n.cs.all (fun a => !isNils a) = true := by
  unfold Nde.cs
  simp only [List.all_append, nonil_i64]
  simp [isNils, ints, ents]
theorem trm_n {β : Type} {n : Nde} (w : n.wf) {H : List AObj} {K : AV → List AObj → List Nat → Option β} : trmK (.agg (n.cs ++ [.nils, .int .i64 0])) H [] K = K (.agg (n.cs ++ [.slc H.length 0 0 0, .int .i64 0])) (H ++ [.vrow]) [] := by
  have hl := Nde.len w
  have : trimA (.agg (n.cs ++ [.nils, .int .i64 0]), H, ([] : List Nat)) = some (.agg (n.cs ++ [.slc H.length 0 0 0, .int .i64 0]), H ++ [.vrow], []) := by
    unfold trimA
    have hfi : (n.cs ++ [AV.nils, AV.int .i64 0]).findIdx? isNils = some n.cs.length := findIdx_app (v := .nils) (r := [.int .i64 0]) (nonil_n n) rfl
    simp only [hfi]
    rw [List.set_append_right _ _ (by omega)]
    simp
  unfold trmK; rw [this]; rfl
theorem CompactK {s : Stp} (g : Lg) (hg : LgOk g) (hs : soundL g = true) {i : Int} (hi : hasL g i = true) {β : Type} {H : List AObj} {K : AV → List AObj → List Nat → Option β} : callK (EV C) false n_log_Compact [g.av, .int .i64 i] H K = K (.tup [(compactL g i).av, .nili]) H [] := by
  refine callK_ok (by simp [goodL, AV.good]) ?_
  rw [Compact_ok _ _ hg]
  unfold compactA
  rw [if_pos hs, if_pos hi]
set_option maxHeartbeats 4000000 in
theorem Step_ok (n : Nde) (x : Inp) (h : StepIn n x) : EV C n_raft_Step [n.av, x.av] [] = some (stepA n x, [], []) := by
  refine raft_Step_of ?_
  have hmo : most = 1152921504606846976 := rfl
  have w := h.nw
  have n0 : ([n.row, x.row, .row 29 [zN]] : List AObj)[0]? = some n.row := rfl
  dsimp only
  rw [new_nd w]
  simp -implicitDefEqProofs only [List.length_nil, List.nil_append]
  rw [new_inp h.m]
  simp -implicitDefEqProofs only [List.length_singleton, List.singleton_append, List.cons_append, List.nil_append]
  rw [new_agg0 (by simp) rfl]
  simp -implicitDefEqProofs only [List.length_cons, List.length_nil, Nat.reduceAdd, Nat.zero_add, List.cons_append, List.nil_append]
  rw [show ([n.row, x.row, .row 29 [AV.agg [(.int .i64 0), (.int .i64 0), (.int .i64 0), (.int .i64 0), (.int .i64 0), (.int .i64 0), (.int .i64 0), .nils, .nils, (.int .i64 0), .nils, (.int .i64 0), (.int .i64 0), (.int .i64 0), (.int .i64 0), (.int .i64 0), (.int .i64 0), (.int .i64 0), (.int .i64 0), (.int .i64 0), (.int .i64 0), (.int .i64 0), (.int .i64 0), (.int .i64 0), (.int .i64 0), (.int .i64 0), (.int .i64 0), (.int .i64 0), (.int .i64 0)]]] : List AObj) = [n.row, x.row, .row 29 [zN]] from rfl]
  rw [ld_node w n0, Option.bind_some, callK_ok (by simp [goodL, Nde.good]) (check_ok n w (by have := h.hv; omega) h.lg)]
  unfold stepA formA
  cases hs : soundN n with
  | false =>
    simp -implicitDefEqProofs only [Bool.false_eq_true, if_false, neq_in, Option.bind_some, condK_t]
    refine (congrArg (fun x => Option.bind x _) (show fillB _ _ = some _ from rfl)).trans ?_
    rw [Option.bind_some]
    have s0 : ∀ (K : List AObj → List Nat → Option R3), stoK 29 (.ptr 2 1 0 0) zN [n.row, x.row, .row 29 [zN]] K = K [n.row, x.row, .row 29 [zN]] [] := fun K => rfl
    have l0 : loadA true 29 (.ptr 2 1 0 0) [n.row, x.row, .row 29 [zN]] = some zN := rfl
    refine (s0 _).trans ?_
    rw [l0, Option.bind_some]
    exact endB_frz (u := .tup [noNde.av, .lst [], .int .i64 0, codeA 3]) rfl rfl
  | true =>
    have hf := sound_fu h hs
    simp -implicitDefEqProofs only [if_true, neq_nn, Option.bind_some, condK_f, ld_node w n0]
    have hfill : ∀ K : List AV → Option R3, (fillB (AV.cells (.agg [(.int .i64 0), (.int .i64 0), (.int .i64 0), (.int .i64 0), (.int .i64 0), (.int .i64 0), (.int .i64 0), .nils, .nils, (.int .i64 0), .nils, (.int .i64 0), (.int .i64 0), (.int .i64 0), (.int .i64 0), (.int .i64 0), (.int .i64 0), (.int .i64 0), (.int .i64 0), (.int .i64 0), (.int .i64 0), (.int .i64 0), (.int .i64 0), (.int .i64 0), (.int .i64 0), (.int .i64 0), (.int .i64 0), (.int .i64 0), (.int .i64 0), .nils, (.int .i64 0)])) [(0, 29, n.av)]).bind K = K (n.cs ++ [.nils, .int .i64 0]) := fun K => by
      have hl := Nde.len w
      simp only [fillB, AV.cells, Nde.av, hl, List.length_cons, List.length_nil, AV.isBad, List.take_zero, List.nil_append]
      rw [if_pos ⟨trivial, by omega, trivial⟩]
      rfl
    rw [hfill, trm_n w]
    simp -implicitDefEqProofs only [List.length_cons, List.length_nil, Nat.reduceAdd, Nat.zero_add, List.cons_append, List.nil_append]
    rw [new_agg0 (by simp) (by simp only [List.all_append, Nde.one n]; rfl)]
    obtain ⟨s, hss⟩ : ∃ s, s = Stp.new n := ⟨_, rfl⟩
    have hrow : ([n.row, x.row, .row 29 [zN], .vrow] ++ [.row (n.cs ++ [AV.slc 3 0 0 0, .int .i64 0]).length [.agg (n.cs ++ [AV.slc 3 0 0 0, .int .i64 0])]] : List AObj) = hp (P3 n x zN) s [] := by
      have e1 : s.cs 3 = n.cs ++ [AV.slc 3 0 0 0, .int .i64 0] := by
        rw [hss]
        simp [Stp.cs, Stp.hd, Stp.new, Nde.cs, Stp.eav, Stp.vav, nilv]
      have e2 : (n.cs ++ [AV.slc 3 0 0 0, .int .i64 0]).length = 31 := by simp [Nde.len w]
      have e3 : orow s = .vrow := by rw [hss]; rfl
      unfold hp srow
      rw [e2, show (P3 n x zN).length = 3 from rfl, e1, e3]
      rfl
    rw [hrow]
    simp -implicitDefEqProofs only [List.length_cons, List.length_nil, Nat.reduceAdd, Nat.zero_add]
    rw [← hss] at hf
    have hsn : s.n = n := by rw [hss]; rfl
    have hso : s.out.length < 700000 := by rw [hss]; show ([] : List Msg).length < _; simp
    -- the ends
    have tail : ∀ (s : Stp) (R : List AObj), s.wf →
        ((loadA true 29 (.ptr 4 1 0 0) (hp (P3 n x zN) s R)).bind fun a22 => (loadA false 1 (.ptr 4 1 0 29) (hp (P3 n x zN) s R)).bind fun a25 => (loadA false 1 (.ptr 4 1 0 30) (hp (P3 n x zN) s R)).bind fun a28 =>
          stoK 29 (.ptr 2 1 0 0) a22 (hp (P3 n x zN) s R) fun H29 E29 =>
          drawK (((loadA false 1 (.ptr 4 1 0 29) H29).bind fun a30 => some a30) = some a25)
          (drawK (((loadA false 1 (.ptr 4 1 0 30) H29).bind fun a31 => some a31) = some a28)
          ((loadA true 29 (.ptr 2 1 0 0) H29).bind fun a32 =>
          endB false false 0 (.tup [a32, a25, a28, .nili]) H29 E29))) = some (s.res, [], []) := fun s R ws => by
      rw [l4_all ws.n, Option.bind_some, l4_out ws.n, Option.bind_some, l4_num ws.n, Option.bind_some]
      rw [show zN = .agg zN.cells from rfl, s2_all ws.n _ rfl, l4_out ws.n, l4_num ws.n, drawK_t (by rfl), drawK_t (by rfl), l2_all ws.n, Option.bind_some]
      exact res_end ws
    have x1 : ∀ {z : AV} {s : Stp} {R : List AObj}, (hp (P3 n x z) s R)[1]? = some x.row := rfl
    have x0 : ∀ {z : AV} {s : Stp} {R : List AObj}, (hp (P3 n x z) s R)[0]? = some n.row := rfl
    have lx0 : ∀ {z : AV} {s : Stp} {R : List AObj}, loadA false 1 (.ptr 1 1 0 0) (hp (P3 n x z) s R) = some (.int .i64 x.kind) := ld_fld x1 rfl
    have lx1 : ∀ {z : AV} {s : Stp} {R : List AObj}, loadA false 1 (.ptr 1 1 0 1) (hp (P3 n x z) s R) = some (.int .i64 x.draw) := ld_fld x1 rfl
    have lx2 : ∀ {z : AV} {s : Stp} {R : List AObj}, loadA false 1 (.ptr 1 1 0 2) (hp (P3 n x z) s R) = some (.int .i64 x.index) := ld_fld x1 rfl
    have hcl : x.msg.cs.length = 17 := Msg.cslen h.m
    have lx20 : ∀ {z : AV} {s : Stp} {R : List AObj}, loadA false 1 (.ptr 1 1 0 20) (hp (P3 n x z) s R) = some (bys x.data) := ld_fld x1 (by
      show x.cs[20]? = _
      unfold Inp.cs
      rw [List.getElem?_append_right (by simp), List.getElem?_append_right (by simp [hcl])]; simp [hcl])
    have lx21 : ∀ {z : AV} {s : Stp} {R : List AObj}, loadA false 1 (.ptr 1 1 0 21) (hp (P3 n x z) s R) = some (ints x.mems) := ld_fld x1 (by
      show x.cs[21]? = _
      unfold Inp.cs
      rw [List.getElem?_append_right (by simp), List.getElem?_append_right (by simp [hcl])]; simp [hcl])
    have lx3 : ∀ {z : AV} {s : Stp} {R : List AObj}, loadA true 17 (.ptr 1 1 0 3) (hp (P3 n x z) s R) = some x.msg.av := fun {z s R} => by
      have h1 : (hp (P3 n x z) s R)[1]? = some (.row 22 [.agg x.cs]) := rfl
      rw [ld_aggp (cs := x.cs) h1 (by simp [Inp.cs, hcl])]
      have e : x.cs.drop 3 = x.msg.cs ++ [bys x.data, ints x.mems] := rfl
      rw [e, List.take_left' hcl]; rfl
    have ln3 : ∀ {z : AV} {s : Stp} {R : List AObj}, loadA false 1 (.ptr 0 1 0 3) (hp (P3 n x z) s R) = some (.int .i64 n.role) := ld_fld x0 rfl
    have ln5 : ∀ {z : AV} {s : Stp} {R : List AObj}, loadA false 1 (.ptr 0 1 0 5) (hp (P3 n x z) s R) = some (.int .i64 n.log.index) := ld_fld x0 rfl
    have ln9 : ∀ {z : AV} {s : Stp} {R : List AObj}, loadA false 1 (.ptr 0 1 0 9) (hp (P3 n x z) s R) = some (.int .i64 n.commit) := ld_fld x0 rfl
    have lnl : ∀ {z : AV} {s : Stp} {R : List AObj}, loadA true 4 (.ptr 0 1 0 5) (hp (P3 n x z) s R) = some n.log.av := ld_log x0
    have tk : ∀ (d : Int) (K : AV → List AObj → List Nat → Option R3), callK (EV C) false n_raft_stepper_tick [.ptr 4 1 0 0, .int .i64 d] (hp (P3 n x zN) s []) K = K (.tup []) (hp (P3 n x zN) (tickF s d) []) [] := fun d K => tickK hf d (by omega)
    have mk : ∀ (K : AV → List AObj → List Nat → Option R3), callK (EV C) false n_raft_stepper_msg [.ptr 4 1 0 0, x.msg.av] (hp (P3 n x zN) s []) K = K (.tup []) (hp (P3 n x zN) (msgF s x.msg) []) [] := fun K => msgK hf h.m h.he h.hd h.hml hso
    have ck : ∀ (K : AV → List AObj → List Nat → Option R3), callK (EV C) false n_raft_stepper_change [.ptr 4 1 0 0, ints x.mems] (hp (P3 n x zN) s []) K = K (.tup []) (hp (P3 n x zN) (changeF s x.mems) []) [] := fun K => changeK hf x.mems h.hmems (by omega)
    have lk : ∀ (K : AV → List AObj → List Nat → Option R3), callK (EV C) false n_raft_stepper_last [.ptr 4 1 0 0] (hp (P3 n x zN) s []) K = K (.int .i64 (lastS s)) (hp (P3 n x zN) s []) [] := fun K => lastK hf.toSOk
    unfold stepF
    rw [← hss]
    dsimp only
    simp -implicitDefEqProofs only [nilA_ptr, offA_ptr, Option.bind_some, Nat.zero_add, Nat.add_zero, Nat.reduceAdd, List.append_nil, lx0, lx1, lx2, lx3, eql_int, condK_dec, tk, mk]
    by_cases k0 : x.kind = 0
    · rw [if_pos k0, if_pos k0]
      exact tail _ [] (tickF_wf hf x.draw)
    · rw [if_neg k0, if_neg k0]
      by_cases k1 : x.kind = 1
      · rw [if_pos k1, if_pos k1]
        exact tail _ [] (msgF_wf hf x.msg)
      · rw [if_neg k1, if_neg k1]
        by_cases k2 : x.kind = 2
        · rw [if_pos k2, if_pos k2]
          simp -implicitDefEqProofs only [nilA_ptr, offA_ptr, Option.bind_some, Nat.zero_add, Nat.add_zero, Nat.reduceAdd, List.append_nil, ln3, lx20, eql_int, splitK_dec, lenV_bys, leq_int]
          by_cases r2 : n.role = 2
          · rw [if_pos r2, if_pos r2]
            by_cases hd : (x.data.length : Int) ≤ 4096
            · rw [if_pos hd, if_pos hd, lk]
              simp -implicitDefEqProofs only [nilA_ptr, offA_ptr, Option.bind_some, Nat.zero_add, Nat.add_zero, Nat.reduceAdd, List.append_nil, lss_int, condK_dec, lx20]
              by_cases hl : lastS s < most
              · have he : EOk s.n 1 x.data := by
                  have ht0 := hf.t0; have ht1 := hf.t1; have hel := hf.el; have hdd := h.hdata
                  have hsr : s.n.role = 2 := by rw [hsn]; exact r2
                  have htr : 0 < s.n.term := by rcases hf.tr with h | h <;> omega
                  exact ⟨ht0, by omega, ht1, by decide, by decide, fun h => absurd h (by decide), hdd, by omega⟩
                have pk : ∀ (K : AV → List AObj → List Nat → Option R3), callK (EV C) false n_raft_stepper_propose [.ptr 4 1 0 0, .int .i64 1, bys x.data] (hp (P3 n x zN) s []) K = K (.tup []) (hp (P3 n x zN) (proposeF s 1 x.data) []) [] := fun K => (propose_m hf.toSGd 1 x.data he (by omega)).call0 (by simp [goodL, AV.good])
                rw [if_pos hl, show ∀ a b : Option R3, (if lastS s < 1152921504606846976 then a else b) = a from fun a b => if_pos hl]
                simp -implicitDefEqProofs only [pk, List.append_nil]
                exact tail _ [] (proposeF_wf hf.toSGd he)
              · rw [if_neg hl, show ∀ a b : Option R3, (if lastS s < 1152921504606846976 then a else b) = b from fun a b => if_neg hl]
                exact tail _ [] hf.w
            · rw [if_neg hd, if_neg hd]
              exact tail _ [] hf.w
          · rw [if_neg r2, if_neg r2]
            exact tail _ [] hf.w
        · rw [if_neg k2, if_neg k2]
          by_cases k3 : x.kind = 3
          · rw [if_pos k3, if_pos k3]
            simp -implicitDefEqProofs only [nilA_ptr, offA_ptr, Option.bind_some, Nat.zero_add, Nat.add_zero, Nat.reduceAdd, List.append_nil, lx21, ck]
            exact tail _ [] (changeF_wf hf x.mems)
          · rw [if_neg k3, if_neg k3]
            by_cases k4 : x.kind = 4
            · rw [if_pos k4, if_pos k4]
              simp -implicitDefEqProofs only [nilA_ptr, offA_ptr, Option.bind_some, Nat.zero_add, Nat.add_zero, Nat.reduceAdd, List.append_nil, lx2, ln5, ln9, lnl, gtr_int, leq_int, splitK_dec, condK_dec]
              by_cases hi : n.log.index < x.index
              · rw [if_pos hi, if_pos hi]
                by_cases hc : x.index ≤ n.commit
                · rw [if_pos hc, if_pos hc]
                  have hsl : soundL n.log = true := by have := hf.sl; rw [hsn] at this; exact this
                  have hc1 : n.commit ≤ lastL n.log := by have := hf.c1; rw [hsn] at this; exact this
                  rw [CompactK (s := s) n.log h.lg hsl (hasL_iff.2 ⟨by omega, by have : lastL n.log = n.log.index + n.log.es.length := rfl; omega⟩)]
                  obtain ⟨g, hg⟩ : ∃ g, g = compactL n.log x.index := ⟨_, rfl⟩
                  rw [← hg]
                  simp -implicitDefEqProofs only [extA_0, extA_1, Option.bind_some, eql_nn, condK_t]
                  have nk : ∀ (K : AV → List AObj → List Nat → Option R3), newK (.agg [(.int .i64 0), (.int .i64 0), .nils, .nils]) (hp (P3 n x zN) s []) K = K (.ptr 5 1 0 0) (hp (P3 n x zN) s [.row 4 [.agg [(.int .i64 0), (.int .i64 0), .nils, .nils]]]) [] := fun K => new_R (P := P3 n x zN) (R := []) (by simp) rfl
                  have sk : ∀ (K : List AObj → List Nat → Option R3), stoK 4 (.ptr 5 1 0 0) g.av (hp (P3 n x zN) s [.row 4 [.agg [(.int .i64 0), (.int .i64 0), .nils, .nils]]]) K = K (hp (P3 n x zN) s [.row 4 [g.av]]) [] := fun K => sto_R (P := P3 n x zN) (R := []) (X := []) (n := 4) (off := 0) (v := g.av) rfl rfl (fun k => by simp [Lg.av, AV.cells, belL, bel_good _ _ (good_ints _), bel_good _ _ (good_ents _), AV.bel]) (by simp) rfl
                  have l5 : loadA true 4 (.ptr 5 1 0 0) (hp (P3 n x zN) s [.row 4 [g.av]]) = some g.av := ld4_R (P := P3 n x zN) (R := []) g
                  have s4 : ∀ (K : List AObj → List Nat → Option R3) (R : List AObj), stoK 4 (.ptr 4 1 0 5) g.av (hp (P3 n x zN) s R) K = K (hp (P3 n x zN) { s with n := { s.n with log := g }, en := false } R) [] := fun K R => ss_lav (P := P3 n x zN) g
                  have sn : ∀ (K : List AObj → List Nat → Option R3) (R : List AObj), stoK 1 (.ptr 4 1 0 30) (.int .i64 x.index) (hp (P3 n x zN) { s with n := { s.n with log := g }, en := false } R) K = K (hp (P3 n x zN) { s with n := { s.n with log := g }, en := false, num := x.index } R) [] := fun K R => ss_num (P := P3 n x zN) (s := { s with n := { s.n with log := g }, en := false }) ⟨hf.w.n.ln, hf.w.n.lm⟩ x.index
                  rw [nk, sk]
                  simp -implicitDefEqProofs only [nilA_ptr, offA_ptr, Option.bind_some, Nat.zero_add, Nat.add_zero, Nat.reduceAdd, List.append_nil, lx2, l5, s4, drawK_True, sn]
                  have hcf : compF s x.index = { s with n := { s.n with log := g }, en := false, num := x.index } := by
                    unfold compF; rw [hg, hsn]
                  rw [hcf]
                  exact tail _ [_] ⟨⟨hf.w.n.ln, hf.w.n.lm⟩, hf.w.vn, (fun h => by cases h), hf.w.out⟩
                · rw [if_neg hc, if_neg hc]
                  exact tail _ [] hf.w
              · rw [if_neg hi, if_neg hi]
                exact tail _ [] hf.w
            · rw [if_neg k4, if_neg k4]
              exact tail _ [] hf.w
end Go.Pm
namespace Go.Pm
open Go.Proofs
set_option linter.unusedVariables false
set_option linter.unusedSimpArgs false
theorem sto_node {H : List AObj} {l : Nat} {cs : List AV} {n : Nde} (w : n.wf) (h : H[l]? = some (.row 29 [.agg cs])) (hl : cs.length = 29) {β : Type} {K : List AObj → List Nat → Option β} : stoK 29 (.ptr l 1 0 0) n.av H K = K (H.set l n.row) [] := by
  have hc : n.av.cells = n.cs := rfl
  rw [sto_row (n := 29) h (by rw [hc]; exact Nde.len w) (by rw [hc]; exact Nde.one n) (by rw [hc]; have := bel_good (l + 1) _ (Nde.good n); exact this) (by omega)]
  have e : cs.take 0 ++ n.av.cells ++ cs.drop (0 + 29) = n.cs := by
    rw [List.take_zero, List.nil_append, List.drop_of_length_le (by omega), List.append_nil]; rfl
  rw [e]; rfl
def newN (id term voted : Int) (l : Lg) (draw : Int) : Nde := ⟨id, term, voted, 0, 0, l, l.index, [], List.replicate 8 0, List.replicate 8 0, 0, toF draw⟩
theorem newN_wf (id term voted : Int) (l : Lg) (draw : Int) : (newN id term voted l draw).wf := ⟨rfl, rfl⟩
/-- as it is first built: its votes are nil -/
def newC (id term voted : Int) (l : Lg) (draw : Int) : List AV := [.int .i64 id, .int .i64 term, .int .i64 voted, .int .i64 0, .int .i64 0, .int .i64 l.index, .int .i64 l.term, ints l.mems, ents l.es, .int .i64 l.index, .nils, .int .i64 0, .int .i64 0, .int .i64 0, .int .i64 0, .int .i64 0, .int .i64 0, .int .i64 0, .int .i64 0, .int .i64 0, .int .i64 0, .int .i64 0, .int .i64 0, .int .i64 0, .int .i64 0, .int .i64 0, .int .i64 0, .int .i64 0, .int .i64 (toF draw)]
def newA' (id term voted : Int) (l : Lg) (draw : Int) : AV := if soundN (newN id term voted l draw) = true then .tup [(newN id term voted l draw).av, .nili] else .tup [noNde.av, codeA 3]
theorem new_lg0 {β : Type} {g : Lg} {H : List AObj} {K : AV → List AObj → List Nat → Option β} : newK g.av H K = K (.ptr H.length 1 0 0) (H ++ [.row 4 [g.av]]) [] := new_agg0 (by simp) rfl
set_option maxHeartbeats 1000000 in
theorem New_ok (id term voted : Int) (l : Lg) (draw : Int) (hl : LgOk l) : EV C n_raft_New [.int .i64 id, .int .i64 term, .int .i64 voted, l.av, .int .i64 draw] [] = some (newA' id term voted l draw, [], []) := by
  refine raft_New_of ?_
  have w := newN_wf id term voted l draw
  dsimp only
  rw [new_lg0]
  simp -implicitDefEqProofs only [List.length_nil, List.nil_append]
  rw [new_agg0 (by simp) rfl]
  simp -implicitDefEqProofs only [List.length_singleton, List.singleton_append]
  have la : ∀ X : List AObj, loadA true 4 (.ptr 0 1 0 0) (.row 4 [l.av] :: X) = some l.av := fun X => rfl
  have li : ∀ X : List AObj, loadA false 1 (.ptr 0 1 0 0) (.row 4 [l.av] :: X) = some (.int .i64 l.index) := fun X => rfl
  simp -implicitDefEqProofs only [la, li, offA_ptr, Option.bind_some, Nat.zero_add, callD_ok (show goodL [AV.int .i64 draw] = true from rfl) (timeout_ok draw)]
  refine (congrArg (fun x => Option.bind x _) (show fillB _ _ = some (newC id term voted l draw) from rfl)).trans ?_
  rw [Option.bind_some, new_agg0 (by simp) rfl]
  have sk : ∀ (K : List AObj → List Nat → Option R3), stoK 29 (.ptr 2 1 0 0) (.agg (newC id term voted l draw)) [.row 4 [l.av], .row 29 [zN], .row 29 [zN]] K = K [.row 4 [l.av], .row 29 [zN], .row 29 [.agg (newC id term voted l draw)]] [] := fun K => by
    have h : ([.row 4 [l.av], .row 29 [zN], .row 29 [zN]] : List AObj)[2]? = some (.row 29 [.agg zN.cells]) := rfl
    rw [sto_row (n := 29) h rfl rfl (by simp [AV.cells, newC, belL, AV.bel, bel_good _ _ (good_ints _), bel_good _ _ (good_ents _)]) (by decide)]
    rfl
  have lk : loadA true 29 (.ptr 2 1 0 0) [.row 4 [l.av], .row 29 [zN], .row 29 [.agg (newC id term voted l draw)]] = some (.agg (newC id term voted l draw)) := rfl
  have ck : ∀ (H : List AObj) (K : AV → List AObj → List Nat → Option R3), callK (EV C) false n_raft_Check [.agg (newC id term voted l draw)] H K = K (formA (soundN (newN id term voted l draw))) H [] := fun H K =>
    callK_nil (bs := [(newN id term voted l draw).av]) rfl rfl (by simp [goodL, Nde.good]) (check_ok _ w (by show ([] : List Int).length ≤ _; simp) hl)
  refine Eq.trans ?_ (show (some (newA' id term voted l draw, [], []) : Option R3) = _ from rfl)
  simp -implicitDefEqProofs only [List.length_cons, List.length_nil, Nat.reduceAdd, Nat.zero_add, List.cons_append, List.nil_append]
  rw [drawK_t (by rfl), drawK_t (by rfl), drawK_True]
  refine (sk _).trans ?_
  rw [lk, Option.bind_some, ck]
  unfold newA' formA
  cases hs : soundN (newN id term voted l draw) with
  | true =>
    simp -implicitDefEqProofs only [if_true, neq_nn, Option.bind_some, condK_f, lk]
    have s2 : ∀ (K : List AObj → List Nat → Option R3), stoK 29 (.ptr 1 1 0 0) (.agg (newC id term voted l draw)) [.row 4 [l.av], .row 29 [zN], .row 29 [.agg (newC id term voted l draw)]] K = K [.row 4 [l.av], .row 29 [.agg (newC id term voted l draw)], .row 29 [.agg (newC id term voted l draw)]] [] := fun K => by
      have h : ([.row 4 [l.av], .row 29 [zN], .row 29 [.agg (newC id term voted l draw)]] : List AObj)[1]? = some (.row 29 [.agg zN.cells]) := rfl
      rw [sto_row (n := 29) h rfl rfl (by simp [AV.cells, newC, belL, AV.bel, bel_good _ _ (good_ints _), bel_good _ _ (good_ents _)]) (by decide)]
      rfl
    rw [s2]
    exact endB_frz (u := .tup [(newN id term voted l draw).av, .nili]) rfl (by simp [AV.good, goodL, Nde.good])
  | false =>
    simp -implicitDefEqProofs only [Bool.false_eq_true, if_false, neq_in, Option.bind_some, condK_t]
    refine (congrArg (fun x => Option.bind x _) (show fillB _ _ = some zN.cells from rfl)).trans ?_
    rw [Option.bind_some]
    have s2 : ∀ (K : List AObj → List Nat → Option R3), stoK 29 (.ptr 1 1 0 0) (.agg zN.cells) [.row 4 [l.av], .row 29 [zN], .row 29 [.agg (newC id term voted l draw)]] K = K [.row 4 [l.av], .row 29 [zN], .row 29 [.agg (newC id term voted l draw)]] [] := fun K => rfl
    refine (s2 _).trans ?_
    exact endB_frz (u := .tup [noNde.av, codeA 3]) rfl rfl
def tickI : Inp := ⟨0, 0, 0, ⟨0, 0, 0, 0, 0, 0, 0, false, [], [], tail0⟩, [], []⟩
def cmdI : Inp := ⟨2, 0, 0, ⟨0, 0, 0, 0, 0, 0, 0, false, [], [], tail0⟩, [97], []⟩
def upN (j : Int) : Nde := ⟨1, 0, 0, 0, 0, ⟨0, 0, [1], []⟩, 0, [], List.replicate 8 0, List.replicate 8 0, j, 10⟩
def upL : Nde := ⟨1, 1, 1, 2, 1, ⟨0, 0, [1], [⟨1, 0, []⟩]⟩, 1, [], List.replicate 8 1, [0, 1, 0, 0, 0, 0, 0, 0], 0, 10⟩
theorem up_0 : newN 1 0 0 ⟨0, 0, [1], []⟩ 0 = upN 0 := rfl
theorem up_t : ∀ j : Nat, j < 9 → soundN (upN j) = true ∧ (stepF (upN j) tickI).n = upN ((j + 1 : Nat) : Int) := by
  intro j hj
  match j, hj with
  | 0, _ => exact ⟨by decide, by rfl⟩
  | 1, _ => exact ⟨by decide, by rfl⟩
  | 2, _ => exact ⟨by decide, by rfl⟩
  | 3, _ => exact ⟨by decide, by rfl⟩
  | 4, _ => exact ⟨by decide, by rfl⟩
  | 5, _ => exact ⟨by decide, by rfl⟩
  | 6, _ => exact ⟨by decide, by rfl⟩
  | 7, _ => exact ⟨by decide, by rfl⟩
  | 8, _ => exact ⟨by decide, by rfl⟩
theorem up_9 : soundN (upN 9) = true ∧ (stepF (upN 9) tickI).n = upL := ⟨by decide, by rfl⟩
theorem up_c : soundN upL = true ∧ (stepF upL cmdI).n.commit = 2 ∧ (stepF upL cmdI).num = 2 := ⟨by decide, by rfl, by rfl⟩
end Go.Pm
namespace Go.Pm
open Go.Proofs
set_option linter.unusedVariables false
set_option linter.unusedSimpArgs false
theorem upN_in (j : Int) : StepIn (upN j) tickI :=
  { nw := ⟨rfl, rfl⟩, m := tail0_wf rfl, lg := ⟨by show ([1] : List Int).length < _; simp, by show ([] : List Ent).length < _; simp, fun e he => by cases he⟩, hv := by show ([] : List Int).length < _; simp, hes := by show ([] : List Ent).length + 1 < _; simp, he := by show ([] : List Ent).length < _; simp, hd := (fun e he => by cases he), hml := by show ([] : List Int).length < _; simp, hdata := by show ([] : List UInt8).length < _; simp, hmems := by show ([] : List Int).length < _; simp }
theorem upL_in : StepIn upL cmdI :=
  { nw := ⟨rfl, rfl⟩, m := tail0_wf rfl, lg := ⟨by show ([1] : List Int).length < _; simp, by show ([⟨1, 0, []⟩] : List Ent).length < _; simp, fun e he => by
      have : e = ⟨1, 0, []⟩ := by simpa [upL] using he
      subst this; show ([] : List UInt8).length < _; simp⟩, hv := by show ([] : List Int).length < _; simp, hes := by show ([⟨1, 0, []⟩] : List Ent).length + 1 < _; simp, he := by show ([] : List Ent).length < _; simp, hd := (fun e he => by cases he), hml := by show ([] : List Int).length < _; simp, hdata := by show ([97] : List UInt8).length < _; simp, hmems := by show ([] : List Int).length < _; simp }
theorem stepF_wf {n : Nde} {x : Inp} (h : StepIn n x) (hs : soundN n = true) : (stepF n x).wf := by
  have hf := sound_fu h hs
  unfold stepF
  dsimp only
  split
  · exact tickF_wf hf _
  · split
    · exact msgF_wf hf _
    · split
      · split
        · rename_i hr
          split
          · split
            · have ht0 := hf.t0; have ht1 := hf.t1; have hel := hf.el; have hdd := h.hdata
              have hsr : (Stp.new n).n.role = 2 := hr
              have htr : 0 < (Stp.new n).n.term := by rcases hf.tr with h | h <;> omega
              exact proposeF_wf hf.toSGd ⟨ht0, by omega, ht1, by decide, by decide, fun h => absurd h (by decide), hdd, by omega⟩
            · exact hf.w
          · exact hf.w
        · exact hf.w
      · split
        · exact changeF_wf hf _
        · split
          · split
            · split
              · exact ⟨⟨hf.w.n.ln, hf.w.n.lm⟩, hf.w.vn, (fun h => by cases h), hf.w.out⟩
              · exact hf.w
            · exact hf.w
          · exact hf.w
theorem up_J3 : ∀ (m j : Nat) (n : Nde), j + m = 10 → (j < 10 → n = upN (j : Int)) → (j = 10 → n = upL) →
    law19_up_J3 0 (.ptr 0 1 0 0) .nili (.int .i64 (j : Int)) [n.row] [] = some (.bool true, [], [])
  | 0, j, n, hj, h1, h2 => by
    have hn := h2 (by omega)
    subst hn
    refine law19_up_J3_of ?_
    have w : upL.wf := ⟨rfl, rfl⟩
    have hs := up_c.1
    have hsw := stepF_wf upL_in hs
    obtain ⟨c, hc⟩ : ∃ c, c = stepF upL cmdI := ⟨_, rfl⟩
    have hcc : c.n.commit = 2 ∧ c.num = 2 := by rw [hc]; exact up_c.2
    rw [← hc] at hsw
    have hst : EV C n_raft_Step [upL.av, cmdI.av] [] = some (c.res, [], []) := by rw [Step_ok upL cmdI upL_in]; unfold stepA; rw [if_pos hs, hc]
    simp -implicitDefEqProofs only [lss_int, Option.bind_some, condK_dec]
    rw [if_neg (by omega), ld_node w rfl, Option.bind_some]
    have rk : ∀ (K : AV → List AObj → List Nat → Option R3), rawK 1 1 (.int .u8 0) [(0, .int .u8 97)] [upL.row] K = K (.slc 1 0 1 1) [upL.row, .row 1 [.int .u8 97]] [] := fun K => rfl
    have cv : cvR (.slc 1 0 1 1) [upL.row, .row 1 [.int .u8 97]] = some (.slc 1 0 1 1) := rfl
    rw [rk, cv, Option.bind_some]
    refine (congrArg (fun x => Option.bind x _) (show fillB _ _ = some [(.int .i64 2), (.int .i64 0), (.int .i64 0), (.int .i64 0), (.int .i64 0), (.int .i64 0), (.int .i64 0), (.int .i64 0), (.int .i64 0), (.int .i64 0), (.bool false), .nils, .nils, (.int .i64 0), .nils, (.int .i64 0), .nils, .nils, .nils, .nils, .slc 1 0 1 1, .nils] from rfl)).trans ?_
    rw [Option.bind_some]
    have hfz : frzL [upL.row, .row 1 [.int .u8 97]] [upL.av, .agg [(.int .i64 2), (.int .i64 0), (.int .i64 0), (.int .i64 0), (.int .i64 0), (.int .i64 0), (.int .i64 0), (.int .i64 0), (.int .i64 0), (.int .i64 0), (.bool false), .nils, .nils, (.int .i64 0), .nils, (.int .i64 0), .nils, .nils, .nils, .nils, .slc 1 0 1 1, .nils]] = some [upL.av, cmdI.av] := by
      refine frzL_cons (frz_good _ _ (Nde.good upL)) ?_
      rfl
    have hk : killAll [upL.row, .row 1 [.int .u8 97]] (killsL [upL.av, .agg [(.int .i64 2), (.int .i64 0), (.int .i64 0), (.int .i64 0), (.int .i64 0), (.int .i64 0), (.int .i64 0), (.int .i64 0), (.int .i64 0), (.int .i64 0), (.bool false), .nils, .nils, (.int .i64 0), .nils, (.int .i64 0), .nils, .nils, .nils, .nils, .slc 1 0 1 1, .nils]]) = [upL.row, .dead] := by
      rw [show killsL [upL.av, .agg [(.int .i64 2), (.int .i64 0), (.int .i64 0), (.int .i64 0), (.int .i64 0), (.int .i64 0), (.int .i64 0), (.int .i64 0), (.int .i64 0), (.int .i64 0), (.bool false), .nils, .nils, (.int .i64 0), .nils, (.int .i64 0), .nils, .nils, .nils, .nils, .slc 1 0 1 1, .nils]] = [1] from by
        simp only [killsL, kills_good _ (Nde.good upL)]
        rfl]
      rfl
    have hg : goodL [upL.av, cmdI.av] = true := by simp only [goodL, Nde.good, Inp.good upL_in.m]; rfl
    have hcall : ∀ (K : AV → List AObj → List Nat → Option R3), callK (EV C) false n_raft_Step [upL.av, .agg [(.int .i64 2), (.int .i64 0), (.int .i64 0), (.int .i64 0), (.int .i64 0), (.int .i64 0), (.int .i64 0), (.int .i64 0), (.int .i64 0), (.int .i64 0), (.bool false), .nils, .nils, (.int .i64 0), .nils, (.int .i64 0), .nils, .nils, .nils, .nils, .slc 1 0 1 1, .nils]] [upL.row, .row 1 [.int .u8 97]] K = K c.res [upL.row, .dead] [] := fun K => by
      have hca : callA (EV C) false n_raft_Step [upL.av, .agg [(.int .i64 2), (.int .i64 0), (.int .i64 0), (.int .i64 0), (.int .i64 0), (.int .i64 0), (.int .i64 0), (.int .i64 0), (.int .i64 0), (.int .i64 0), (.bool false), .nils, .nils, (.int .i64 0), .nils, (.int .i64 0), .nils, .nils, .nils, .nils, .slc 1 0 1 1, .nils]] [upL.row, .row 1 [.int .u8 97]] = some (c.res, [upL.row, .dead], []) := by
        unfold callA
        rw [if_neg (by decide), hfz, Option.bind_some, if_pos (belL_good 0 _ hg), hst, Option.bind_some]
        rw [if_pos (by rfl), if_neg (by simp [Stp.res, AV.flat, flatL, Nde.av, Nde.cs, ints, ents, upL]; intro h; exact absurd h (by rw [hc]; decide)), hk]
      unfold callK; rw [hca]; rfl
    rw [hcall]
    unfold Stp.res
    simp -implicitDefEqProofs only [extA_0, extA_1, extA_2, Option.bind_some]
    have ex3 : extA (.tup [c.n.av, .lst (c.out.map Msg.av), .int .i64 c.num, .nili]) 3 = some .nili := rfl
    rw [ex3, Option.bind_some, new_agg0 (by simp) rfl]
    simp -implicitDefEqProofs only [List.length_cons, List.length_nil, Nat.reduceAdd, Nat.zero_add, List.cons_append, List.nil_append]
    have sk : ∀ (K : List AObj → List Nat → Option R3), stoK 29 (.ptr 2 1 0 0) c.n.av [upL.row, .dead, .row 29 [zN]] K = K [upL.row, .dead, c.n.row] [] := fun K => sto_node (cs := zN.cells) hsw.n rfl rfl
    refine (sk _).trans ?_
    have l3 : loadA false 1 (.ptr 0 1 0 3) [upL.row, .dead, c.n.row] = some (.int .i64 2) := rfl
    have l9 : loadA false 1 (.ptr 0 1 0 9) [upL.row, .dead, c.n.row] = some (.int .i64 1) := rfl
    have l9b : loadA false 1 (.ptr 2 1 0 9) [upL.row, .dead, c.n.row] = some (.int .i64 c.n.commit) := ld_fld (z := 29) (cs := c.n.cs) rfl rfl
    simp -implicitDefEqProofs only [eql_nn, Option.bind_some, splitK_t, offA_ptr, Nat.zero_add, l3, l9, l9b, eql_int, hcc.1, hcc.2, decide_true]
    exact endB_good rfl
  | m + 1, j, n, hj, h1, h2 => by
    have hn := h1 (by omega)
    have e3 : IntKind.i64.wrap ((j : Int) + 1) = ((j + 1 : Nat) : Int) := w64 (by omega) (by omega)
    have hin : StepIn n tickI := by rw [hn]; exact upN_in _
    have hs : soundN n = true := by
      rw [hn]
      rcases Nat.lt_or_ge j 9 with h | h
      · exact (up_t j h).1
      · have : j = 9 := by omega
        subst this; exact up_9.1
    have hsw := stepF_wf hin hs
    have hc1 : j + 1 < 10 → (stepF n tickI).n = upN ((j + 1 : Nat) : Int) := fun h => by rw [hn]; exact (up_t j (by omega)).2
    have hc2 : j + 1 = 10 → (stepF n tickI).n = upL := fun h => by
      have : j = 9 := by omega
      subst this; rw [hn]; exact up_9.2
    obtain ⟨c, hc⟩ : ∃ c, c = stepF n tickI := ⟨_, rfl⟩
    have hst : EV C n_raft_Step [n.av, tickI.av] [] = some (c.res, [], []) := by rw [Step_ok n tickI hin]; unfold stepA; rw [if_pos hs, hc]
    rw [← hc] at hsw hc1 hc2
    have w := hin.nw
    refine law19_up_J3_of ?_
    simp -implicitDefEqProofs only [lss_int, Option.bind_some, condK_dec]
    rw [if_pos (by omega), ld_node w rfl, Option.bind_some]
    refine (congrArg (fun x => Option.bind x _) (show fillB _ _ = some [(.int .i64 0), (.int .i64 0), (.int .i64 0), (.int .i64 0), (.int .i64 0), (.int .i64 0), (.int .i64 0), (.int .i64 0), (.int .i64 0), (.int .i64 0), (.bool false), .nils, .nils, (.int .i64 0), .nils, (.int .i64 0), .nils, .nils, .nils, .nils, .nils, .nils] from rfl)).trans ?_
    rw [Option.bind_some]
    have hcall : ∀ (K : AV → List AObj → List Nat → Option R3), callK (EV C) false n_raft_Step [n.av, .agg [(.int .i64 0), (.int .i64 0), (.int .i64 0), (.int .i64 0), (.int .i64 0), (.int .i64 0), (.int .i64 0), (.int .i64 0), (.int .i64 0), (.int .i64 0), (.bool false), .nils, .nils, (.int .i64 0), .nils, (.int .i64 0), .nils, .nils, .nils, .nils, .nils, .nils]] [n.row] K = K c.res [n.row] [] := fun K =>
      callK_nil (bs := [n.av, tickI.av]) (by simp only [killsL, kills_good _ (Nde.good n)]; rfl) (frzL_cons (frz_good _ _ (Nde.good n)) rfl) (by simp only [goodL, Nde.good, Inp.good hin.m]; rfl) hst
    rw [hcall]
    unfold Stp.res
    simp -implicitDefEqProofs only [extA_0, extA_1, extA_2, Option.bind_some]
    have ex3 : extA (.tup [c.n.av, .lst (c.out.map Msg.av), .int .i64 c.num, .nili]) 3 = some .nili := rfl
    rw [ex3, Option.bind_some, new_agg0 (by simp) rfl]
    simp -implicitDefEqProofs only [List.length_cons, List.length_nil, Nat.reduceAdd, Nat.zero_add, List.cons_append, List.nil_append]
    have sk : ∀ (K : List AObj → List Nat → Option R3), stoK 29 (.ptr 1 1 0 0) c.n.av [n.row, .row 29 [zN]] K = K [n.row, c.n.row] [] := fun K => sto_node (cs := zN.cells) hsw.n rfl rfl
    refine (sk _).trans ?_
    have sk2 : ∀ (K : List AObj → List Nat → Option R3), stoK 29 (.ptr 0 1 0 0) c.n.av [n.row, c.n.row] K = K [c.n.row, c.n.row] [] := fun K => sto_node (cs := n.cs) hsw.n rfl (Nde.len w)
    rw [neq_nn, Option.bind_some, condK_f, ld_node (l := 1) hsw.n rfl, Option.bind_some]
    refine (sk2 _).trans ?_
    simp -implicitDefEqProofs only [add_int, e3, Option.bind_some]
    exact up_J3 m (j + 1) c.n (by omega) hc1 hc2
theorem up_ok : EV C n_law19_up [] [] = some (.bool true, [], []) := by
  refine law19_up_of ?_
  have hl : LgOk ⟨0, 0, [1], []⟩ := ⟨by show ([1] : List Int).length < _; simp, by show ([] : List Ent).length < _; simp, fun e he => by cases he⟩
  dsimp only
  rw [litIn rfl]
  refine (congrArg (fun x => Option.bind x _) (show fillB _ _ = some [.int .i64 0, .int .i64 0, ints [1]] from rfl)).trans ?_
  rw [Option.bind_some]
  refine (congrArg (fun x => Option.bind x _) (show fillB _ _ = some [.int .i64 0, .int .i64 0, ints [1], .nils] from rfl)).trans ?_
  rw [Option.bind_some]
  have hcall : ∀ (K : AV → List AObj → List Nat → Option R3), callK (EV C) false n_raft_New [.int .i64 1, .int .i64 0, .int .i64 0, .agg [.int .i64 0, .int .i64 0, ints [1], .nils], .int .i64 0] [] K = K (.tup [(upN 0).av, .nili]) [] [] := fun K =>
    callK_nil (bs := [.int .i64 1, .int .i64 0, .int .i64 0, (Lg.av ⟨0, 0, [1], []⟩), .int .i64 0]) rfl rfl rfl (by
      rw [New_ok 1 0 0 ⟨0, 0, [1], []⟩ 0 hl]
      unfold newA'
      rw [up_0, if_pos (show soundN (upN 0) = true from by decide)])
  rw [hcall]
  simp -implicitDefEqProofs only [extA_0, extA_1, Option.bind_some]
  rw [new_agg0 (by simp) rfl]
  have sk : ∀ (K : List AObj → List Nat → Option R3), stoK 29 (.ptr 0 1 0 0) (upN 0).av [.row 29 [zN]] K = K [(upN 0).row] [] := fun K => sto_node (cs := zN.cells) ⟨rfl, rfl⟩ rfl rfl
  refine (sk _).trans ?_
  exact up_J3 10 0 (upN 0) rfl (fun _ => rfl) (fun h => by cases h)
end Go.Pm
namespace Go.Pm
open Go.Proofs
set_option linter.unusedVariables false
set_option linter.unusedSimpArgs false
section
variable {n : Nde} {H : List AObj} {l : Nat}
end
def msgs (l : List Msg) : AV := .lst (l.map Msg.av)
def light19 (n : Nde) (x : Inp) : Bool := lightL n.log && (lightL ⟨0, 0, [], x.msg.es⟩ && (decide (n.votes.length < 100) && (decide (x.data.length < 10000) && (decide (x.mems.length < 100) && decide (x.msg.mems.length < 100)))))
set_option maxHeartbeats 1000000 in
theorem light19_ok {n : Nde} {x : Inp} (w : n.wf) (wm : x.msg.wf) : EV C n_ref19_Light [n.av, x.av] [] = some (.bool (light19 n x), [], []) := by
  refine ref19_Light_of ?_
  dsimp only
  rw [new_nd w]
  simp -implicitDefEqProofs only [List.length_nil, List.nil_append]
  rw [new_inp wm]
  simp -implicitDefEqProofs only [List.length_singleton, List.singleton_append]
  have h0 : ([n.row, x.row] : List AObj)[0]? = some n.row := rfl
  have h1 : ([n.row, x.row] : List AObj)[1]? = some (.row 22 [.agg x.cs]) := rfl
  have hcl : x.msg.cs.length = 17 := Msg.cslen wm
  have c11 : x.cs[11]? = some (ents x.msg.es) := rfl
  have c12 : x.cs[12]? = some (ints x.msg.mems) := rfl
  have c20 : x.cs[20]? = some (bys x.data) := by
    unfold Inp.cs
    rw [List.getElem?_append_right (by simp), List.getElem?_append_right (by simp [hcl])]; simp [hcl]
  have c21 : x.cs[21]? = some (ints x.mems) := by
    unfold Inp.cs
    rw [List.getElem?_append_right (by simp), List.getElem?_append_right (by simp [hcl])]; simp [hcl]
  simp -implicitDefEqProofs only [offA_ptr, Option.bind_some, Nat.zero_add, ld_log h0]
  rw [callK_ok (by simp [goodL]) (Light_ok n.log)]
  simp -implicitDefEqProofs only [offA_ptr, Option.bind_some, Nat.zero_add, Nat.reduceAdd, ld_fld h1 c11]
  have hfl : fillB (AV.cells (.agg [(.int .i64 0), (.int .i64 0), .nils, .nils])) [(3, 1, ents x.msg.es)] = some [.int .i64 0, .int .i64 0, .nils, ents x.msg.es] := rfl
  rw [hfl, Option.bind_some]
  have hc : ∀ (H : List AObj) (K : AV → List AObj → List Nat → Option R3), callK (EV C) false n_ref18_Light [.agg [.int .i64 0, .int .i64 0, .nils, ents x.msg.es]] H K = K (.bool (lightL ⟨0, 0, [], x.msg.es⟩)) H [] := fun H K =>
    callK_nil (bs := [(Lg.av ⟨0, 0, [], x.msg.es⟩)]) rfl rfl (by simp [goodL]) (Light_ok _)
  rw [hc]
  unfold light19
  cases b1 : lightL n.log with
  | false => simp only [splitK_f, Bool.false_and]; exact endB_good rfl
  | true =>
    simp only [splitK_t, Bool.true_and]
    cases b2 : lightL ⟨0, 0, [], x.msg.es⟩ with
    | false => simp only [splitK_f, Bool.false_and]; exact endB_good rfl
    | true =>
      simp -implicitDefEqProofs only [splitK_t, Bool.true_and, offA_ptr, Option.bind_some, Nat.zero_add, ld_fld (j := 10) (v := ints n.votes) h0 rfl, lenV_ints, lss_int, splitK_dec]
      by_cases b3 : (n.votes.length : Int) < 100
      · rw [if_pos b3, show decide (n.votes.length < 100) = true from decide_eq_true (by omega)]
        simp -implicitDefEqProofs only [Bool.true_and, offA_ptr, Option.bind_some, Nat.zero_add, ld_fld h1 c20, lenV_bys, lss_int, splitK_dec]
        by_cases b4 : (x.data.length : Int) < 10000
        · rw [if_pos b4, show decide (x.data.length < 10000) = true from decide_eq_true (by omega)]
          simp -implicitDefEqProofs only [Bool.true_and, offA_ptr, Option.bind_some, Nat.zero_add, ld_fld h1 c21, lenV_ints, lss_int, splitK_dec]
          by_cases b5 : (x.mems.length : Int) < 100
          · rw [if_pos b5, show decide (x.mems.length < 100) = true from decide_eq_true (by omega)]
            simp -implicitDefEqProofs only [Bool.true_and, offA_ptr, Option.bind_some, Nat.zero_add, Nat.reduceAdd, ld_fld h1 c12, lenV_ints, lss_int]
            refine (endB_good rfl).trans ?_
            congr 3
            simp only [decide_eq_decide]; omega
          · rw [if_neg b5, show decide (x.mems.length < 100) = false from decide_eq_false (by omega)]
            simp only [Bool.false_and]
            exact endB_good rfl
        · rw [if_neg b4, show decide (x.data.length < 10000) = false from decide_eq_false (by omega)]
          simp only [Bool.false_and]
          exact endB_good rfl
      · rw [if_neg b3, show decide (n.votes.length < 100) = false from decide_eq_false (by omega)]
        simp only [Bool.false_and]
        exact endB_good rfl
end Go.Pm
namespace Go.Pm
open Go.Proofs
set_option linter.unusedVariables false
set_option linter.unusedSimpArgs false
theorem C_I : ∀ f F a H r, C.I f = some F → F a H = some r → SpecR C.P C.G f a H r := clone_ok (C0 := C0) (fun f => rfl)
theorem choose_map {α β : Type} {f : β → AV} {g : α → AV} : ∀ {l : List α}, (∀ a ∈ l, ∃ b, g a = f b) → ∃ l' : List β, l'.length = l.length ∧ l.map g = l'.map f
  | [], _ => ⟨[], rfl, rfl⟩
  | a :: l, h => by
    obtain ⟨b, hb⟩ := h a (by simp)
    obtain ⟨l', h1, h2⟩ := choose_map (l := l) fun x hx => h x (List.mem_cons_of_mem _ hx)
    exact ⟨b :: l', by simp [h1], by simp [hb, h2]⟩
theorem ty_int {B : Nat} {P : Program} {k : IntKind} {f : Nat} {cs : List AV} {t : TypeId} (ht : P.underlying t = some (.int k)) (h : tyC P B f t cs) : ∃ n, cs = [.int k n] ∧ k.min ≤ n ∧ n ≤ k.max := by
  cases f with
  | zero => simp [tyC] at h
  | succ f =>
    simp only [tyC, ht] at h
    obtain ⟨n, h1, h2, h3⟩ := h
    exact ⟨n, h1, h2, h3⟩
theorem ty_u8 {B : Nat} {P : Program} {f : Nat} {cs : List AV} {t : TypeId} (ht : P.underlying t = some (.int .u8)) (h : tyC P B f t cs) : ∃ b : UInt8, cs = [u8 b] := by
  obtain ⟨n, rfl, h1, h2⟩ := ty_int ht h
  refine ⟨UInt8.ofNat n.toNat, ?_⟩
  have a1 : IntKind.u8.min = 0 := rfl
  have a2 : IntKind.u8.max = 255 := rfl
  rw [a1] at h1; rw [a2] at h2
  rw [u8_nat]
  congr 2
  omega
theorem ty_slice {B : Nat} {P : Program} {α : Type} {g : α → AV} {f : Nat} {cs : List AV} {t e : TypeId} (ht : P.underlying t = some (.slice e)) (h : tyC P B f t cs) (hel : ∀ f cs, tyC P B f e cs → ∃ a, mkE (agT P e) cs = g a) :
    ∃ l : List α, cs = [.lst (l.map g)] ∧ l.length * P.bytesOf e ≤ B := by
  cases f with
  | zero => simp [tyC] at h
  | succ f =>
    simp only [tyC, ht] at h
    obtain ⟨ess, rfl, h1, h2⟩ := h
    obtain ⟨l, h3, h4⟩ := choose_map (f := g) (g := mkE (agT P e)) (l := ess) fun a ha => hel f a (h2 a ha).1
    exact ⟨l, by rw [h4], by rw [h3]; exact h1⟩
theorem ty_struct {B : Nat} {P : Program} {f : Nat} {cs : List AV} {t : TypeId} {fs : Array Field} (ht : P.underlying t = some (.struct fs)) (h : tyC P B f t cs) :
    ∃ (f' : Nat) (css : List (List AV)), cs = css.flatten ∧ forall2 (fun (g : Field) cs => tyC P B f' g.type cs ∧ cs.length = P.cellsOf g.type) fs.toList css := by
  cases f with
  | zero => simp [tyC] at h
  | succ f =>
    simp only [tyC, ht] at h
    obtain ⟨css, h1, h2⟩ := h
    exact ⟨f, css, h1, h2⟩
theorem agT_f {P : Program} {t : TypeId} {d : TypeDesc} (h : P.underlying t = some d) (hs : (match d with | .struct _ | .array _ _ => true | _ => false) = false) : agT P t = false := by
  unfold agT; rw [h]; cases d <;> simp_all
theorem forall2_1 {α β : Type} {p : α → β → Prop} {a : α} {xs : List α} {bs : List β} (h : forall2 p (a :: xs) bs) : ∃ b bs', bs = b :: bs' ∧ p a b ∧ forall2 p xs bs' := by
  cases bs with
  | nil => exact h.elim
  | cons b bs => exact ⟨b, bs, rfl, h.1, h.2⟩
theorem forall2_0 {α β : Type} {p : α → β → Prop} {bs : List β} (h : forall2 p [] bs) : bs = [] := by
  cases bs with
  | nil => rfl
  | cons b bs => exact h.elim
theorem f2_mem {α β : Type} {p : α → β → Prop} : ∀ {xs : List α} {bs : List β}, forall2 p xs bs → ∀ b ∈ bs, ∃ a, p a b
  | [], [], _, b, hb => by cases hb
  | a :: xs, c :: bs, h, b, hb => by
    rcases List.mem_cons.1 hb with rfl | hb
    · exact ⟨a, h.1⟩
    · exact f2_mem h.2 b hb
  | [], _ :: _, h, _, _ => h.elim
  | _ :: _, [], h, _, _ => h.elim
theorem goodL_flat {css : List (List AV)} (h : ∀ cs ∈ css, goodL cs = true) : goodL css.flatten = true := by
  induction css with
  | nil => rfl
  | cons c css ih =>
    simp only [List.flatten_cons, goodL_append, Bool.and_eq_true]
    exact ⟨h c (by simp), ih fun x hx => h x (List.mem_cons_of_mem _ hx)⟩
theorem oneC_flat {css : List (List AV)} (h : ∀ cs ∈ css, cs.all AV.one = true) : css.flatten.all AV.one = true := by
  induction css with
  | nil => rfl
  | cons c css ih =>
    simp only [List.flatten_cons, List.all_append, Bool.and_eq_true]
    exact ⟨h c (by simp), ih fun x hx => h x (List.mem_cons_of_mem _ hx)⟩
theorem goodL_map' {α : Type} {g : α → AV} {l : List α} (h : ∀ a ∈ l, (g a).good = true) : goodL (l.map g) = true := goodL_all.2 fun v hv => by
  obtain ⟨a, ha, rfl⟩ := List.mem_map.1 hv
  exact h a ha
theorem ty_good {B : Nat} {P : Program} : ∀ (f : Nat) (t : TypeId) (cs : List AV), tyC P B f t cs → goodL cs = true ∧ cs.all AV.one = true ∧ (agT P t = false → ∃ a, cs = [a])
  | 0, t, cs, h => by simp [tyC] at h
  | f + 1, t, cs, h => by
    unfold tyC at h
    split at h
    · obtain ⟨b, rfl⟩ := h; exact ⟨rfl, rfl, fun _ => ⟨_, rfl⟩⟩
    · obtain ⟨n, rfl, _⟩ := h; exact ⟨rfl, rfl, fun _ => ⟨_, rfl⟩⟩
    · obtain ⟨s, rfl, _⟩ := h; exact ⟨rfl, rfl, fun _ => ⟨_, rfl⟩⟩
    · rename_i e he
      obtain ⟨ess, rfl, h1, h2⟩ := h
      refine ⟨?_, rfl, fun _ => ⟨_, rfl⟩⟩
      simp only [goodL, AV.good, Bool.and_true]
      refine goodL_map' fun c hc => ?_
      have h3 := ty_good f e c (h2 c hc).1
      unfold mkE
      cases ha : agT P e with
      | true => simp only [if_true, AV.good]; exact h3.1
      | false =>
        obtain ⟨a, rfl⟩ := h3.2.2 ha
        have := h3.1
        simp only [goodL, Bool.and_true] at this
        simpa using this
    · rename_i fs he
      obtain ⟨css, rfl, h2⟩ := h
      refine ⟨goodL_flat fun c hc => ?_, oneC_flat fun c hc => ?_, fun ha => ?_⟩
      · obtain ⟨g, hg, _⟩ := f2_mem h2 c hc
        exact (ty_good f _ c hg).1
      · obtain ⟨g, hg, _⟩ := f2_mem h2 c hc
        exact (ty_good f _ c hg).2.1
      · unfold agT at ha; rw [he] at ha; cases ha
    · rename_i n e he
      obtain ⟨css, rfl, h2, h3⟩ := h
      refine ⟨goodL_flat fun c hc => (ty_good f _ c (h3 c hc).1).1, oneC_flat fun c hc => (ty_good f _ c (h3 c hc).1).2.1, fun ha => ?_⟩
      unfold agT at ha; rw [he] at ha; cases ha
    · exact h.elim
variable {B : Nat} {f : Nat} {cs : List AV}
theorem ty_bytes (h : tyC Try.prog B f 42 cs) : ∃ l : List UInt8, cs = [bys l] ∧ l.length ≤ B := by
  obtain ⟨l, h1, h2⟩ := ty_slice (g := u8) Try.underlying42 h fun f cs h => by
    obtain ⟨b, rfl⟩ := ty_u8 Try.underlying5 h
    exact ⟨b, by rw [agT_f Try.underlying5 rfl]; rfl⟩
  rw [show Try.prog.bytesOf 5 = 1 from by kernel_rfl] at h2
  exact ⟨l, h1, by omega⟩
theorem ty_i64 (h : tyC Try.prog B f 3 cs) : ∃ n, cs = [.int .i64 n] := by
  obtain ⟨n, h1, _⟩ := ty_int Try.underlying3 h
  exact ⟨n, h1⟩
theorem ty_bool (h : tyC Try.prog B f 4 cs) : ∃ b, cs = [.bool b] := by
  cases f with
  | zero => simp [tyC] at h
  | succ f =>
    simp only [tyC, Try.underlying4] at h
    exact h
theorem ty_ints (h : tyC Try.prog B f 22 cs) : ∃ l : List Int, cs = [ints l] ∧ l.length * 8 ≤ B := by
  obtain ⟨l, h1, h2⟩ := ty_slice (g := i64) Try.underlying22 h fun f cs h => by
    obtain ⟨n, rfl⟩ := ty_i64 h
    exact ⟨n, by rw [agT_f Try.underlying3 rfl]; rfl⟩
  rw [show Try.prog.bytesOf 3 = 8 from by kernel_rfl] at h2
  exact ⟨l, h1, h2⟩
theorem ty_arr (h : tyC Try.prog B f 30 cs) : ∃ l : List Int, cs = l.map i64 ∧ l.length = 8 := by
  cases f with
  | zero => simp [tyC] at h
  | succ f =>
    simp only [tyC, Try.underlying30] at h
    obtain ⟨css, rfl, h2, h3⟩ := h
    have : ∀ (css : List (List AV)), (∀ c ∈ css, tyC Try.prog B f 3 c) → ∃ l : List Int, css.flatten = l.map i64 ∧ l.length = css.length := by
      intro css
      induction css with
      | nil => intro _; exact ⟨[], rfl, rfl⟩
      | cons c css ih =>
        intro h
        obtain ⟨n, rfl⟩ := ty_i64 (h c (by simp))
        obtain ⟨l, h1, h2⟩ := ih fun x hx => h x (List.mem_cons_of_mem _ hx)
        exact ⟨n :: l, by simp [h1, i64], by simp [h2]⟩
    obtain ⟨l, h4, h5⟩ := this css fun c hc => (h3 c hc).1
    exact ⟨l, h4, by omega⟩
theorem ty_ent (h : tyC Try.prog B f 81 cs) : ∃ e : Ent, cs = [.int .i64 e.term, .int .i64 e.kind, bys e.data] ∧ e.data.length ≤ B := by
  obtain ⟨f', css, rfl, h2⟩ := ty_struct Try.underlying81 h
  obtain ⟨c1, _, rfl, ⟨k1, _⟩, h2⟩ := forall2_1 h2
  obtain ⟨c2, _, rfl, ⟨k2, _⟩, h2⟩ := forall2_1 h2
  obtain ⟨c3, _, rfl, ⟨k3, _⟩, h2⟩ := forall2_1 h2
  obtain rfl := forall2_0 h2
  obtain ⟨t, rfl⟩ := ty_i64 k1
  obtain ⟨k, rfl⟩ := ty_i64 k2
  obtain ⟨d, rfl, hd⟩ := ty_bytes k3
  exact ⟨⟨t, k, d⟩, rfl, hd⟩
theorem ty_ents (h : tyC Try.prog B f 25 cs) : ∃ l : List Ent, cs = [ents l] ∧ l.length * 40 ≤ B ∧ ∀ e ∈ l, e.data.length ≤ B := by
  cases f with
  | zero => simp [tyC] at h
  | succ f =>
    simp only [tyC, Try.underlying25] at h
    obtain ⟨ess, rfl, h1, h2⟩ := h
    have : ∀ (ess : List (List AV)), (∀ c ∈ ess, tyC Try.prog B f 81 c) → ∃ l : List Ent, ess.map (mkE (agT Try.prog 81)) = l.map Ent.av ∧ l.length = ess.length ∧ ∀ e ∈ l, e.data.length ≤ B := by
      intro ess
      induction ess with
      | nil => intro _; exact ⟨[], rfl, rfl, fun e he => by cases he⟩
      | cons c ess ih =>
        intro h
        obtain ⟨e, rfl, he⟩ := ty_ent (h c (by simp))
        obtain ⟨l, h1, h2, h3⟩ := ih fun x hx => h x (List.mem_cons_of_mem _ hx)
        refine ⟨e :: l, ?_, by simp [h2], fun x hx => ?_⟩
        · have ha : agT Try.prog 81 = true := by kernel_rfl
          rw [ha] at h1
          simp only [List.map_cons, ha, h1]; rfl
        · rcases List.mem_cons.1 hx with rfl | hx
          · exact he
          · exact h3 x hx
    obtain ⟨l, h4, h5, h6⟩ := this ess fun c hc => (h2 c hc).1
    rw [show Try.prog.bytesOf 81 = 40 from by kernel_rfl] at h1
    exact ⟨l, by rw [h4]; rfl, by omega, h6⟩
structure LgB (B : Nat) (g : Lg) : Prop where
  m : g.mems.length * 8 ≤ B
  e : g.es.length * 40 ≤ B
  d : ∀ e ∈ g.es, e.data.length ≤ B
theorem ty_lgc (h : tyC Try.prog B f 27 cs) : ∃ g : Lg, cs = [.int .i64 g.index, .int .i64 g.term, ints g.mems, ents g.es] ∧ LgB B g := by
  obtain ⟨f', css, rfl, h2⟩ := ty_struct Try.underlying27 h
  obtain ⟨c1, _, rfl, ⟨k1, _⟩, h2⟩ := forall2_1 h2
  obtain ⟨c2, _, rfl, ⟨k2, _⟩, h2⟩ := forall2_1 h2
  obtain rfl := forall2_0 h2
  obtain ⟨f2, css, rfl, h3⟩ := ty_struct Try.underlying24 k1
  obtain ⟨d1, _, rfl, ⟨j1, _⟩, h3⟩ := forall2_1 h3
  obtain ⟨d2, _, rfl, ⟨j2, _⟩, h3⟩ := forall2_1 h3
  obtain ⟨d3, _, rfl, ⟨j3, _⟩, h3⟩ := forall2_1 h3
  obtain rfl := forall2_0 h3
  obtain ⟨i, rfl⟩ := ty_i64 j1
  obtain ⟨t, rfl⟩ := ty_i64 j2
  obtain ⟨m, rfl, hm⟩ := ty_ints j3
  obtain ⟨es, rfl, h5, h6⟩ := ty_ents k2
  exact ⟨⟨i, t, m, es⟩, rfl, ⟨hm, h5, h6⟩⟩
end Go.Pm
namespace Go.Pm
open Go.Proofs
set_option linter.unusedVariables false
set_option linter.unusedSimpArgs false
theorem termL_app {g : Lg} {e : List Ent} {i : Int} (hi : g.index ≤ i) (hl : i ≤ lastL g) : termL { g with es := g.es ++ e } i = termL g i := by
  unfold termL
  by_cases h : i = g.index
  · rw [if_pos h, if_pos h]
  · rw [if_neg h, if_neg h]
    have : (i - g.index - 1).toNat < g.es.length := by unfold lastL at hl; omega
    rw [List.getElem?_append_left this]
theorem sound_parts {g : Lg} (h : soundL g = true) : (0 ≤ g.index ∧ g.index ≤ most ∧ 0 ≤ g.term ∧ g.term ≤ most ∧ (g.es.length : Int) ≤ most - g.index) ∧ mayL g.mems = true ∧ chkEs g.term g.es = true := by
  simp only [soundL, Bool.and_eq_true, decide_eq_true_eq] at h
  exact ⟨h.1, h.2.1, h.2.2⟩
theorem chk_drop : ∀ (n : Nat) (l : List Ent) (t : Int), chkEs t l = true → n ≤ l.length → ∃ u, (n = 0 → u = t) ∧ (∀ e, 0 < n → l[n - 1]? = some e → u = e.term) ∧ chkEs u (l.drop n) = true
  | 0, l, t, h, hn => ⟨t, fun _ => rfl, fun e h0 => by omega, by simpa using h⟩
  | n + 1, [], t, h, hn => by simp at hn
  | n + 1, x :: l, t, h, hn => by
    simp only [chkEs, Bool.and_eq_true] at h
    obtain ⟨u, h1, h2, h3⟩ := chk_drop n l x.term h.2 (by simpa using hn)
    refine ⟨u, fun h0 => by omega, fun e _ he => ?_, by simpa using h3⟩
    cases n with
    | zero => simp at he; subst he; exact h1 rfl
    | succ n => simp at he; exact h2 e (by omega) (by simpa using he)
theorem chk_term : ∀ {l : List Ent} {t : Int}, chkEs t l = true → ∀ e ∈ l, 1 ≤ e.term ∧ e.term ≤ most
  | [], t, h, e, he => by simp at he
  | x :: l, t, h, e, he => by
    simp only [chkEs, Bool.and_eq_true] at h
    rcases List.mem_cons.1 he with rfl | he
    · have := h.1
      simp only [entOk, Bool.and_eq_true, decide_eq_true_eq] at this
      exact ⟨this.1.2.1, this.1.2.2.1⟩
    · exact chk_term h.2 e he
theorem term_get {g : Lg} {n : Nat} (hn : n ≤ g.es.length) : termL g (g.index + n) = if n = 0 then g.term else ((g.es[n - 1]?).map (·.term)).getD 0 := by
  unfold termL
  by_cases h0 : n = 0
  · rw [if_pos (by omega), if_pos h0]
  · rw [if_neg (by omega), if_neg h0, show (g.index + (n : Int) - g.index - 1).toNat = n - 1 by omega]
theorem compact_sound {g : Lg} (hs : soundL g = true) {i : Int} (hh : hasL g i = true) : soundL (compactL g i) = true := by
  obtain ⟨h1, h2, h3⟩ := sound_parts hs
  have hb := hasL_iff.1 hh
  have hmo : most = 1152921504606846976 := rfl
  obtain ⟨u, k1, k2, k3⟩ := chk_drop (i - g.index).toNat g.es g.term h3 (by omega)
  have ht : termL g i = u := by
    have := term_get (g := g) (n := (i - g.index).toNat) (by omega)
    rw [show g.index + (((i - g.index).toNat : Nat) : Int) = i by omega] at this
    rw [this]
    split
    · rename_i h0; exact (k1 h0).symm
    · rename_i h0
      have hlt : (i - g.index).toNat - 1 < g.es.length := by omega
      have hget := List.getElem?_eq_getElem hlt
      rw [hget]
      exact (k2 _ (by omega) hget).symm
  have hu : 0 ≤ u ∧ u ≤ most := by
    by_cases h0 : (i - g.index).toNat = 0
    · rw [k1 h0]; omega
    · have hlt : (i - g.index).toNat - 1 < g.es.length := by omega
      have hget := List.getElem?_eq_getElem hlt
      have := chk_term h3 _ (List.getElem_mem hlt)
      rw [k2 _ (by omega) hget]; omega
  simp only [soundL, Bool.and_eq_true, decide_eq_true_eq]
  refine ⟨⟨?_, ?_, ?_, ?_, ?_⟩, members_may hs i, ?_⟩
  · show 0 ≤ i; omega
  · show i ≤ most; omega
  · show 0 ≤ termL g i; rw [ht]; exact hu.1
  · show termL g i ≤ most; rw [ht]; exact hu.2
  · show ((g.es.drop (i - g.index).toNat).length : Int) ≤ most - i
    rw [List.length_drop]; omega
  · show chkEs (termL g i) (g.es.drop (i - g.index).toNat) = true
    rw [ht]; exact k3
theorem compact_last {g : Lg} {i : Int} (hh : hasL g i = true) : lastL (compactL g i) = lastL g := by
  have hb := hasL_iff.1 hh
  show i + ((g.es.drop (i - g.index).toNat).length : Int) = g.index + (g.es.length : Int)
  rw [List.length_drop]; omega
theorem compact_term {g : Lg} {i n : Int} (hh : hasL g i = true) (h1 : i ≤ n) (h2 : n ≤ lastL g) : termL (compactL g i) n = termL g n := by
  have hb := hasL_iff.1 hh
  unfold lastL at h2
  by_cases he : n = i
  · subst he
    show (if n = n then termL g n else _) = _
    rw [if_pos rfl]
  · show (if n = i then termL g i else (((g.es.drop (i - g.index).toNat)[(n - i - 1).toNat]?).map (·.term)).getD 0) = _
    rw [if_neg he, List.getElem?_drop]
    unfold termL
    rw [if_neg (by omega), show (i - g.index).toNat + (n - i - 1).toNat = (n - g.index - 1).toNat by omega]
theorem compact_lgok {g : Lg} (hg : LgOk g) {i : Int} (hs : soundL g = true) : LgOk (compactL g i) :=
  ⟨by have := may_len (members_may hs i); show (membersL g i).length < _; omega, by have := hg.e; show (g.es.drop _).length < _; rw [List.length_drop]; omega, fun e he => hg.d e (List.mem_of_mem_drop he)⟩
/-- what a merge with nothing amiss leaves -/
theorem merge_facts {g : Lg} (hs : soundL g = true) (hg : LgOk g) (hge : g.es.length < 2^39) {p : Int} (hh : hasL g p = true) {e : List Ent} (he : e.length < 2^39) (hd : lightP e) (h0 : (mergeL g p e).2.2 = 0) :
    (mergeL g p e).1.index = g.index ∧ soundL (mergeL g p e).1 = true ∧ LgOk (mergeL g p e).1 ∧ (∀ i, g.index ≤ i → i < (mergeL g p e).2.1 → i ≤ lastL g → termL (mergeL g p e).1 i = termL g i) ∧
      (mergeL g p e).2.1 ≤ lastL (mergeL g p e).1 + 1 ∧ p + e.length ≤ lastL (mergeL g p e).1 ∧ ((mergeL g p e).1 = g ∨ ∃ x ∈ e, termL (mergeL g p e).1 (lastL (mergeL g p e).1) = x.term) := by
  have hb := hasL_iff.1 hh
  have hm := mch_le (g.es.drop (p - g.index).toNat) e
  rw [List.length_drop] at hm
  unfold mergeL mergeK at h0 ⊢
  obtain ⟨P, hP⟩ : ∃ P, P = (p - g.index).toNat := ⟨_, rfl⟩
  rw [← hP] at hm h0 ⊢
  obtain ⟨k, hk⟩ : ∃ k, k = mch (g.es.drop P) e := ⟨_, rfl⟩
  rw [← hk] at hm h0 ⊢
  by_cases h1 : k = e.length
  · simp only [if_pos h1]
    refine ⟨trivial, hs, hg, fun i _ _ _ => trivial, by omega, ?_, .inl trivial⟩
    unfold lastL; omega
  · simp only [if_neg h1] at h0 ⊢
    cases hj : soundL (joinL g P e k) with
    | false => rw [hj] at h0; simp at h0
    | true =>
      simp only [if_true]
      have hjl : (joinL g P e k).es.length = P + e.length := by simp only [joinL, List.length_append, List.length_take, List.length_drop]; omega
      have hlast : lastL (joinL g P e k) = g.index + (P + e.length : Nat) := by unfold lastL; rw [hjl]; rfl
      refine ⟨rfl, hj, join_ok hg he hge hd P k, fun i i0 i1 i2 => ?_, ?_, ?_, .inr ?_⟩
      · unfold termL
        by_cases hi : i = g.index
        · rw [if_pos (show i = (joinL g P e k).index from hi), if_pos hi]; rfl
        · rw [if_neg (show ¬ i = (joinL g P e k).index from hi), if_neg hi]
          show (((g.es.take (P + k) ++ e.drop k)[(i - g.index - 1).toNat]?).map (·.term)).getD 0 = _
          have hlt : (i - g.index - 1).toNat < P + k := by omega
          rw [List.getElem?_append_left (by rw [List.length_take]; omega), List.getElem?_take_of_lt hlt]
      · rw [hlast]; omega
      · rw [hlast]; omega
      · have hne : e ≠ [] := by intro h; subst h; simp at hm h1; omega
        have hlt : e.length - 1 < e.length := by have := List.length_pos_iff.2 hne; omega
        refine ⟨e[e.length - 1], List.getElem_mem hlt, ?_⟩
        unfold termL
        have hpos : 0 < P + e.length := by have := List.length_pos_iff.2 hne; omega
        rw [hlast, if_neg (by show ¬ g.index + ((P + e.length : Nat) : Int) = g.index; omega)]
        show (((g.es.take (P + k) ++ e.drop k)[(g.index + ((P + e.length : Nat) : Int) - g.index - 1).toNat]?).map (·.term)).getD 0 = _
        rw [show (g.index + ((P + e.length : Nat) : Int) - g.index - 1).toNat = P + e.length - 1 by omega, List.getElem?_append_right (by rw [List.length_take]; omega), List.getElem?_drop, List.length_take, show k + (P + e.length - 1 - min (P + k) g.es.length) = e.length - 1 by omega, List.getElem?_eq_getElem hlt]
        rfl
theorem votesB_snoc : ∀ (l pre : List Int) (x : Int), votesB pre (l ++ [x]) = (votesB pre l && (inF x 1 7 && !hasF (pre ++ l) x))
  | [], pre, x => by simp [votesB]
  | v :: l, pre, x => by
    simp only [List.cons_append, votesB, votesB_snoc l (pre ++ [v]) x, List.append_assoc, List.cons_append, List.nil_append, Bool.and_assoc]
structure StI (n0 : Nde) (k : Nat) (s : Stp) : Prop where
  gd : SGd s
  t0 : termL s.n.log (lastL s.n.log) ≤ s.n.term
  t00 : 0 ≤ s.n.term
  t1 : s.n.term ≤ most
  k0 : 0 ≤ s.n.ticks
  k1 : s.n.ticks ≤ most
  o0 : 0 ≤ s.n.timeout
  o1 : s.n.timeout ≤ most
  v0 : 0 ≤ s.n.voted
  v1 : s.n.voted ≤ 7
  l0 : 0 ≤ s.n.leader
  l1 : s.n.leader ≤ 7
  r0 : 0 ≤ s.n.role
  r1 : s.n.role ≤ 2
  tr : 0 < s.n.term ∨ s.n.role = 0
  vt : votesB [] s.n.votes = true
  vl : s.n.votes.length < 2^40
  id : s.n.id = n0.id
  tm : n0.term ≤ s.n.term
  vd : s.n.term = n0.term → n0.voted ≠ 0 → s.n.voted = n0.voted
  cm : n0.commit ≤ s.n.commit
  lg : ∀ i, n0.log.index ≤ i → i ≤ n0.commit → s.n.log.index ≤ i → termL s.n.log i = termL n0.log i
  out : ∀ m ∈ s.out, m.frm = n0.id ∧ m.to ≠ n0.id ∧ m.term = s.n.term ∧ m.es.length < 2^40 ∧ m.mems.length < 2^40
  ol : s.out.length ≤ k
theorem StI.send {n0 : Nde} {k : Nat} {s : Stp} (h : StI n0 k s) {m : Msg} (wm : m.wf) {to : Int} (ht : to ≠ s.n.id) (h1 : m.es.length < 2^40) (h2 : m.mems.length < 2^40) : StI n0 (k + 1) (sendF s to m) :=
  { h with
    gd := h.gd.sendF wm to
    out := fun x hx => by
      simp only [sendF, List.mem_append, List.mem_singleton] at hx
      rcases hx with hx | rfl
      · exact h.out x hx
      · exact ⟨h.id, by rw [← h.id]; exact ht, rfl, h1, h2⟩
    ol := by have := h.ol; simp only [sendF, List.length_append, List.length_singleton]; omega }
theorem StI.others {n0 : Nde} {mk : Int → Msg} (hw : ∀ i, (mk i).wf) (h1 : ∀ i, (mk i).es.length < 2^40) (h2 : ∀ i, (mk i).mems.length < 2^40) : ∀ (l : List Int) {k : Nat} {s : Stp}, StI n0 k s → StI n0 (k + l.length) (othersF s l mk)
  | [], k, s, h => h
  | x :: l, k, s, h => by
    by_cases hx : x = s.n.id
    · rw [others_eq hx]
      have := StI.others hw h1 h2 l h
      exact { this with ol := by have := this.ol; simp only [List.length_cons]; omega }
    · rw [others_ne hx]
      have := StI.others hw h1 h2 l (h.send (hw x) hx (h1 x) (h2 x))
      exact { this with ol := by have := this.ol; simp only [List.length_cons]; omega }
theorem bringM_small {s : Stp} (h : SGd s) (i : Int) : (bringM s.n i).es.length < 2^40 ∧ (bringM s.n i).mems.length < 2^40 := by
  have h1 := slice_len s.n.log
  have h2 := h.es
  have h3 := may_len (sound_parts h.sl).2.1
  unfold bringM
  split
  · exact ⟨by show ([] : List Ent).length < _; simp, by show s.n.log.mems.length < _; omega⟩
  · exact ⟨by dsimp only; have := h1 ((if lastL s.n.log < s.n.next.getD i.toNat 0 - 1 then lastL s.n.log else s.n.next.getD i.toNat 0 - 1) + 1) 8; omega, by show ([] : List Int).length < _; simp⟩
theorem StI.all {n0 : Nde} {k : Nat} {s : Stp} (h : StI n0 k s) : StI n0 (k + 7) (allF s) := by
  have := StI.others (n0 := n0) (bringM_wf s.n) (fun i => (bringM_small h.gd i).1) (fun i => (bringM_small h.gd i).2) (memsS s) h
  have hl := may_len h.gd.mems
  exact { this with ol := by have := this.ol; unfold allF; omega }
theorem StI.mono {n0 : Nde} {k k' : Nat} {s : Stp} (h : StI n0 k s) (hk : k ≤ k') : StI n0 k' s := { h with ol := by have := h.ol; omega }
theorem addF_lastT {s : Stp} (h : SOk s) {kind : Int} {data : List UInt8} (ht : termL s.n.log (lastL s.n.log) ≤ s.n.term) : termL (addF s kind data).n.log (lastL (addF s kind data).n.log) ≤ s.n.term := by
  unfold addF
  split
  · exact ht
  · show termL { s.n.log with es := s.n.log.es ++ [⟨s.n.term, kind, data⟩] } (lastL { s.n.log with es := s.n.log.es ++ [⟨s.n.term, kind, data⟩] }) ≤ s.n.term
    rw [termL_last]
    show (((s.n.log.es ++ [(⟨s.n.term, kind, data⟩ : Ent)]).getLast?).map (·.term)).getD s.n.log.term ≤ s.n.term
    rw [List.getLast?_append]
    simp
theorem StI.add {n0 : Nde} {k : Nat} {s : Stp} (h : StI n0 k s) {kind : Int} {data : List UInt8} (he : EOk s.n kind data) : StI n0 k (addF s kind data) := by
  have hg := addF_gd h.gd he
  have ht := addF_lastT h.gd.toSOk (kind := kind) (data := data) h.t0
  have hcl : s.n.commit ≤ lastL s.n.log := h.gd.c1
  unfold addF at hg ht ⊢
  by_cases hm : most ≤ lastS s
  · rw [if_pos hm]; exact h
  · rw [if_neg hm] at hg ht ⊢
    exact { h with
      gd := hg
      t0 := ht
      lg := fun i i0 i1 i2 => by
        have hc := h.cm
        exact (termL_app (g := s.n.log) (e := [⟨s.n.term, kind, data⟩]) (i := i) i2 (by omega)).trans (h.lg i i0 i1 i2) }
theorem StI.outF {n0 : Nde} {k : Nat} {s : Stp} (h : StI n0 k s) : StI n0 k (outF s) := by
  have hg := outF_gd h.gd
  unfold Go.Pm.outF at hg ⊢
  split
  · rw [if_pos (by assumption)] at hg
    exact { h with gd := hg, l0 := Int.le_refl _, l1 := by show (0 : Int) ≤ 7; decide, r0 := Int.le_refl _, r1 := by show (0 : Int) ≤ 2; decide, tr := .inr rfl }
  · exact h
theorem StI.mark {n0 : Nde} {k : Nat} {s : Stp} (h : StI n0 k s) : StI n0 k (markF s) := { h with gd := markF_gd h.gd }
theorem StI.loop {n0 : Nde} {k : Nat} {s : Stp} (h : StI n0 k s) : ∀ j : Nat, s.n.commit + j ≤ lastL s.n.log → StI n0 k (cLoop s j)
  | 0, _ => h
  | j + 1, hj => by
    have hc := h.gd.c0
    have hcm := h.cm
    unfold cLoop; split
    · split
      · exact { h with gd := h.gd.commit (by omega) hj, cm := by show n0.commit ≤ s.n.commit + ((j + 1 : Nat) : Int); omega }
      · exact h.loop j (by omega)
    · exact h
theorem StI.counts {n0 : Nde} {k : Nat} {s : Stp} (h : StI n0 k s) : StI n0 k (countsF s) := by
  have c0 := h.gd.c0; have c1 := h.gd.c1
  exact (h.mark.loop _ (by show s.n.commit + ((lastS s - s.n.commit).toNat : Int) ≤ lastL s.n.log; unfold lastS; omega)).outF
theorem StI.reset {n0 : Nde} {k : Nat} {s : Stp} (h : StI n0 k s) (ht : 0 < s.n.term) : StI n0 k (resetF s) :=
  { h with gd := resetF_gd h.gd, k0 := Int.le_refl _, k1 := by show (0 : Int) ≤ most; decide, l0 := by have := h.gd.id0; show 0 ≤ s.n.id; omega, l1 := h.gd.id1, r0 := by show (0 : Int) ≤ 2; decide, r1 := Int.le_refl _, tr := .inl ht, vt := rfl, vl := by show ([] : List Int).length < _; simp }
theorem StI.eok {n0 : Nde} {k : Nat} {s : Stp} (h : StI n0 k s) (ht : 0 < s.n.term) (hl : s.n.log.es.length + 1 < 2^40) : EOk s.n 0 [] := ⟨h.t0, by omega, h.t1, by decide, by decide, fun h => absurd h (by decide), by decide, hl⟩
theorem StI.leads {n0 : Nde} {k : Nat} {s : Stp} (h : StI n0 k s) (ht : 0 < s.n.term) (hl : s.n.log.es.length + 1 < 2^40) : StI n0 (k + 7) (leadsF s) :=
  ((h.reset ht).add (he := h.eok ht hl)).counts.all
theorem toF_bounds (d : Int) : 10 ≤ toF d ∧ toF d ≤ 19 := by unfold toF; omega
theorem StI.cand {n0 : Nde} {k : Nat} {s : Stp} (h : StI n0 k s) (d : Int) (ht : s.n.term < most) (ho : s.out = []) : StI n0 k (candF s d) := by
  have hto := toF_bounds d
  have hmo : most = 1152921504606846976 := rfl
  have htm := h.tm; have ht00 := h.t00; have ht0 := h.t0; have hi := h.gd.id0; have hi1 := h.gd.id1
  exact { h with
    gd := candF_gd h.gd d
    t0 := by show termL s.n.log (lastL s.n.log) ≤ s.n.term + 1; omega
    t00 := by show 0 ≤ s.n.term + 1; omega
    t1 := by show s.n.term + 1 ≤ most; omega
    k0 := Int.le_refl _
    k1 := by show (0 : Int) ≤ most; decide
    o0 := by show 0 ≤ toF d; omega
    o1 := by show toF d ≤ most; omega
    v0 := by show 0 ≤ s.n.id; omega
    v1 := hi1
    l0 := Int.le_refl _
    l1 := by show (0 : Int) ≤ 7; decide
    r0 := by show (0 : Int) ≤ 1; decide
    r1 := by show (1 : Int) ≤ 2; decide
    tr := .inl (by show 0 < s.n.term + 1; omega)
    vt := by show votesB [] [s.n.id] = true; simp [votesB, inF, hasF]; omega
    vl := by show ([s.n.id] : List Int).length < _; simp
    tm := by show n0.term ≤ s.n.term + 1; omega
    vd := fun he => by have he' : s.n.term + 1 = n0.term := he; omega
    out := fun m hm => by
      have hm' : m ∈ s.out := hm
      rw [ho] at hm'; cases hm' }
theorem StI.stands {n0 : Nde} {k : Nat} {s : Stp} (h : StI n0 k s) (d : Int) (ht : s.n.term < most) (ho : s.out = []) (hl : s.n.log.es.length + 1 < 2^40) : StI n0 (k + 7) (standsF s d) := by
  have hc := h.cand d ht ho
  have h00 := h.t00
  unfold standsF
  dsimp only
  split
  · exact hc.leads (by show 0 < s.n.term + 1; omega) hl
  · have := StI.others (n0 := n0) (fun _ => askM_wf (candF s d).n) (fun _ => by show ([] : List Ent).length < _; simp) (fun _ => by show ([] : List Int).length < _; simp) (memsS (candF s d)) hc
    have hm := may_len hc.gd.mems
    exact this.mono (by omega)
theorem StI.ticks {n0 : Nde} {k : Nat} {s : Stp} (h : StI n0 k s) (x : Int) (h0 : 0 ≤ x) (h1 : x ≤ most) : StI n0 k { s with n := { s.n with ticks := x } } := { h with gd := h.gd.ticks x, k0 := h0, k1 := h1 }
theorem StI.tick {n0 : Nde} {k : Nat} {s : Stp} (h : StI n0 k s) (d : Int) (ho : s.out = []) (hl : s.n.log.es.length + 1 < 2^40) : StI n0 (k + 7) (tickF s d) := by
  have hmo : most = 1152921504606846976 := rfl
  have k0 := h.k0; have k1 := h.k1
  have ht : StI n0 k (ticksF s) := h.ticks _ (by split <;> omega) (by split <;> omega)
  unfold tickF
  dsimp only
  split
  · split
    · exact (ht.ticks 0 (Int.le_refl _) (by omega)).all
    · exact ht.mono (by omega)
  · split
    · split
      · split
        · exact ht.stands d (by assumption) ho hl
        · exact ht.mono (by omega)
      · exact ht.mono (by omega)
    · exact ht.mono (by omega)
end Go.Pm
namespace Go.Pm
open Go.Proofs
set_option linter.unusedVariables false
set_option linter.unusedSimpArgs false
theorem StI.newT {n0 : Nde} {k : Nat} {s : Stp} (h : StI n0 k s) {m : Msg} (ht : s.n.term < m.term) (h1 : m.term ≤ most) (ho : s.out = []) : StI n0 k (newT s m) := by
  have htm := h.tm; have ht00 := h.t00; have ht0 := h.t0
  exact { h with
    gd := ⟨⟨⟨⟨h.gd.w.n.ln, h.gd.w.n.lm⟩, (fun _ => rfl), h.gd.w.en, h.gd.w.out⟩, h.gd.lg, h.gd.sl⟩, h.gd.id0, h.gd.id1, h.gd.nx, h.gd.mt, h.gd.c0, h.gd.c1⟩
    t0 := by show termL s.n.log (lastL s.n.log) ≤ m.term; omega
    t00 := by show 0 ≤ m.term; omega
    t1 := h1
    v0 := Int.le_refl _
    v1 := by show (0 : Int) ≤ 7; decide
    l0 := Int.le_refl _
    l1 := by show (0 : Int) ≤ 7; decide
    r0 := Int.le_refl _
    r1 := by show (0 : Int) ≤ 2; decide
    tr := .inr rfl
    vt := rfl
    vl := by show ([] : List Int).length < _; simp
    tm := by show n0.term ≤ m.term; omega
    vd := fun he => by have he' : m.term = n0.term := he; omega
    out := fun x hx => by
      have hx' : x ∈ s.out := hx
      rw [ho] at hx'; cases hx' }
theorem StI.vote {n0 : Nde} {k : Nat} {s : Stp} (h : StI n0 k s) {m : Msg} (f0 : 1 ≤ m.frm) (f7 : m.frm ≤ 7) (hl : s.n.votes.length + 1 < 2^40) : StI n0 k (voteF s m) := by
  have hg := voteF_gd h.gd m
  unfold voteF at hg ⊢
  by_cases hx : hasF s.n.votes m.frm = true
  · rw [if_pos hx]; exact h
  · rw [if_neg hx] at hg ⊢
    exact { h with
      gd := hg
      vt := by
        show votesB [] (s.n.votes ++ [m.frm]) = true
        rw [votesB_snoc, h.vt]
        have : inF m.frm 1 7 = true := inF_iff.2 ⟨f0, f7⟩
        simp [this, hx]
      vl := by show (s.n.votes ++ [m.frm]).length < _; rw [List.length_append]; exact hl }
theorem StI.won {n0 : Nde} {k : Nat} {s : Stp} (h : StI n0 k s) (ht : 0 < s.n.term) (hl : s.n.log.es.length + 1 < 2^40) : StI n0 (k + 7) (wonF s) := by
  unfold wonF; split
  · exact h.leads ht hl
  · exact h.mono (by omega)
theorem StI.ask {n0 : Nde} {k : Nat} {s : Stp} (h : StI n0 k s) {m : Msg} (f0 : 1 ≤ m.frm) (f7 : m.frm ≤ 7) (hf : m.frm ≠ s.n.id) : StI n0 (k + 1) (askF s m) := by
  unfold askF
  dsimp only
  have hs : StI n0 k (if askedOk s.n m = true then { s with n := { s.n with voted := m.frm, ticks := 0 } } else s) := by
    split
    · rename_i hk
      simp only [askedOk, Bool.and_eq_true, Bool.or_eq_true, decide_eq_true_eq] at hk
      exact { h with
        gd := ⟨⟨⟨⟨h.gd.w.n.ln, h.gd.w.n.lm⟩, h.gd.w.vn, h.gd.w.en, h.gd.w.out⟩, h.gd.lg, h.gd.sl⟩, h.gd.id0, h.gd.id1, h.gd.nx, h.gd.mt, h.gd.c0, h.gd.c1⟩
        k0 := Int.le_refl _
        k1 := by show (0 : Int) ≤ most; decide
        v0 := by show 0 ≤ m.frm; omega
        v1 := f7
        vd := fun he hv => by
          have := h.vd he hv
          show m.frm = n0.voted
          rcases hk.2.1 with h1 | h1
          · omega
          · omega }
    · exact h
  refine hs.send (tail0_wf rfl) ?_ (by show ([] : List Ent).length < _; simp) (by show ([] : List Int).length < _; simp)
  split <;> exact hf
theorem StI.follow {n0 : Nde} {k : Nat} {s : Stp} (h : StI n0 k s) {f : Int} (f0 : 1 ≤ f) (f7 : f ≤ 7) : StI n0 k (followF s f) :=
  { h with
    gd := followF_gd h.gd f
    k0 := Int.le_refl _
    k1 := by show (0 : Int) ≤ most; decide
    l0 := by show 0 ≤ f; omega
    l1 := f7
    r0 := Int.le_refl _
    r1 := by show (0 : Int) ≤ 2; decide
    tr := .inr rfl
    vt := rfl
    vl := by show ([] : List Int).length < _; simp }
theorem StI.tail {n0 : Nde} {k : Nat} {s : Stp} (h : StI n0 k s) {m : Msg} (h0 : m.es = []) (h1 : m.mems = []) (w : m.wf) {to : Int} (ht : to ≠ s.n.id) : StI n0 (k + 1) (sendF s to m) :=
  h.send w ht (by rw [h0]; simp) (by rw [h1]; simp)
theorem StI.appB {n0 : Nde} {k : Nat} {f : Stp} (h : StI n0 k f) {m : Msg} {p : Int} {e : List Ent} (hf : m.frm ≠ f.n.id) (hh : hasL f.n.log p = true) (he : e.length < 2^39) (hge : f.n.log.es.length < 2^39) (hd : lightP e) (hm : m.term ≤ f.n.term) : StI n0 (k + 1) (appB f m p e) := by
  have hb := hasL_iff.1 hh
  have c0 := h.gd.c0; have c1 := h.gd.c1; have hcm := h.cm; have ht0 := h.t0
  unfold Go.Pm.appB
  dsimp only
  split
  · rename_i h0
    obtain ⟨mi, ms, ml, mt, m1, m2, m3⟩ := merge_facts h.gd.sl h.gd.lg hge hh he hd h0
    split
    · exact h.mono (by omega)
    · rename_i hc
      split
      · exact h.mono (by omega)
      · rename_i ha
        have hx : ∀ x ∈ e, x.term ≤ m.term := by
          intro x hx
          have : ¬ (m.term < x.term) := fun hlt => ha (List.any_eq_true.2 ⟨x, hx, decide_eq_true hlt⟩)
          omega
        obtain ⟨c, hcd⟩ : ∃ c, c = (if (if p + (e.length : Int) < m.commit then p + (e.length : Int) else m.commit) > f.n.commit then (if p + (e.length : Int) < m.commit then p + (e.length : Int) else m.commit) else f.n.commit) := ⟨_, rfl⟩
        rw [← hcd]
        have hc1 : f.n.commit ≤ c ∧ c ≤ lastL (mergeL f.n.log p e).1 := by rw [hcd]; split <;> split <;> omega
        have hs : StI n0 k ({ f with n := { f.n with log := (mergeL f.n.log p e).1, commit := c }, en := false } : Stp) := { h with
          gd := ⟨⟨⟨⟨h.gd.w.n.ln, h.gd.w.n.lm⟩, h.gd.w.vn, (fun h => by cases h), h.gd.w.out⟩, ml, ms⟩, h.gd.id0, h.gd.id1, h.gd.nx, h.gd.mt, by show (mergeL f.n.log p e).1.index ≤ c; omega, hc1.2⟩
          t0 := by
            show termL (mergeL f.n.log p e).1 (lastL (mergeL f.n.log p e).1) ≤ f.n.term
            rcases m3 with h3 | ⟨x, hxe, h3⟩
            · rw [h3]; exact ht0
            · have := hx x hxe; omega
          cm := by show n0.commit ≤ c; omega
          lg := fun i i0 i1 i2 => by
            have i2' : f.n.log.index ≤ i := by have : (mergeL f.n.log p e).1.index ≤ i := i2; omega
            exact (mt i i2' (by omega) (by omega)).trans (h.lg i i0 i1 i2') }
        exact hs.tail rfl rfl (tail0_wf rfl) hf
  · exact h.mono (by omega)
theorem has_self {g : Lg} : hasL g g.index = true := hasL_iff.2 ⟨Int.le_refl _, by omega⟩
theorem StI.app {n0 : Nde} {k : Nat} {s : Stp} (h : StI n0 k s) {m : Msg} (f0 : 1 ≤ m.frm) (f7 : m.frm ≤ 7) (hf : m.frm ≠ s.n.id) (he : m.es.length < 2^39) (hge : s.n.log.es.length < 2^39) (hd : lightP m.es) (hm : m.term ≤ s.n.term) : StI n0 (k + 1) (appF' s m) := by
  have h' := h.follow f0 f7
  unfold appF'
  dsimp only
  split
  · exact h.mono (by omega)
  · split
    · exact h'.appB hf has_self (by rw [List.length_drop]; omega) hge (fun x hx => hd x (List.mem_of_mem_drop hx)) hm
    · split
      · rename_i hh
        split
        · exact h'.appB hf hh he hge hd hm
        · exact h'.tail rfl rfl (tail0_wf rfl) hf
      · exact h'.tail rfl rfl (tail0_wf rfl) hf
theorem snapL_lgok {n : Nde} (hg : LgOk n.log) {m : Msg} (hm : m.mems.length < 2^62) : LgOk (snapL n m) := by
  refine ⟨hm, ?_, ?_⟩
  · show (if snapKeep n m = true then (compactL n.log m.index).es else []).length < _
    split
    · show (n.log.es.drop _).length < _; have := hg.e; rw [List.length_drop]; omega
    · simp
  · intro e he
    have he' : e ∈ (if snapKeep n m = true then (compactL n.log m.index).es else []) := he
    split at he'
    · exact hg.d e (List.mem_of_mem_drop he')
    · cases he'
theorem snapL_term {n : Nde} {m : Msg} (ht : termL n.log (lastL n.log) ≤ n.term) (hl : m.lterm ≤ n.term) : termL (snapL n m) (lastL (snapL n m)) ≤ n.term := by
  rw [termL_last] at ht ⊢
  show (((if snapKeep n m = true then (compactL n.log m.index).es else []).getLast?).map (·.term)).getD m.lterm ≤ n.term
  split
  · show (((n.log.es.drop (m.index - n.log.index).toNat).getLast?).map (·.term)).getD m.lterm ≤ n.term
    rw [List.getLast?_drop]
    split
    · exact hl
    · rename_i hlt
      cases hg : n.log.es.getLast? with
      | none => rw [List.getLast?_eq_none_iff] at hg; rw [hg] at hlt; simp at hlt
      | some e => rw [hg] at ht; exact ht
  · exact hl
theorem StI.snap {n0 : Nde} {k : Nat} {s : Stp} (h : StI n0 k s) {m : Msg} (f0 : 1 ≤ m.frm) (f7 : m.frm ≤ 7) (hf : m.frm ≠ s.n.id) (hm : m.mems.length < 2^62) : StI n0 (k + 1) (snapF s m) := by
  have h' := h.follow f0 f7
  have hcm := h.cm
  unfold snapF
  dsimp only
  split
  · exact h.mono (by omega)
  · split
    · split
      · exact h.mono (by omega)
      · rename_i hlt
        split
        · exact h'.tail rfl rfl (tail0_wf rfl) hf
        · rename_i hci
          have hci' : ¬ m.index ≤ s.n.commit := hci
          unfold snapE
          split
          · rename_i hsl
            have hs : StI n0 k ({ followF s m.frm with n := { (followF s m.frm).n with log := snapL s.n m, commit := m.index }, en := !snapKeep s.n m } : Stp) := { h' with
              gd := ⟨⟨⟨⟨h.gd.w.n.ln, h.gd.w.n.lm⟩, (fun _ => rfl), (fun hk => by
                  show (snapL s.n m).es = []
                  unfold snapL
                  rw [if_neg (by simpa using hk)]), h.gd.w.out⟩, snapL_lgok h.gd.lg hm, hsl⟩, h.gd.id0, h.gd.id1, h.gd.nx, h.gd.mt, Int.le_refl _, by show m.index ≤ lastL (snapL s.n m); unfold lastL; show m.index ≤ m.index + _; omega⟩
              t0 := snapL_term h.t0 (by omega)
              cm := by show n0.commit ≤ m.index; omega
              lg := fun i i0 i1 i2 => by
                have : m.index ≤ i := i2
                omega }
            have hq := hs.tail (m := { msg0 4 with ok := true, index := m.index }) rfl rfl (tail0_wf rfl) hf
            exact { hq with gd := ⟨⟨⟨hq.gd.w.n, hq.gd.w.vn, hq.gd.w.en, hq.gd.w.out⟩, hq.gd.lg, hq.gd.sl⟩, hq.gd.id0, hq.gd.id1, hq.gd.nx, hq.gd.mt, hq.gd.c0, hq.gd.c1⟩ }
          · exact h'.mono (by omega)
    · exact h.mono (by omega)
theorem StI.ack {n0 : Nde} {k : Nat} {s : Stp} (h : StI n0 k s) {m : Msg} (f0 : 1 ≤ m.frm) (f7 : m.frm ≤ 7) (hf : m.frm ≠ s.n.id) (hi0 : 0 ≤ m.index) (hi1 : m.index ≤ most) : StI n0 (k + 1) (ackF s m) := by
  have h8 : m.frm.toNat < 8 := by omega
  unfold ackF
  dsimp only
  split
  · split
    · exact h.mono (by omega)
    · have h1 : StI n0 k (fwdF (gotF s m) m) := { h with gd := fwdF_gd (gotF_gd h.gd m h8 hi0 hi1) m h8 }
      have hc := h1.counts
      have hid : (countsF (fwdF (gotF s m) m)).n.id = s.n.id := by rw [hc.id, h.id]
      split
      · split
        · exact hc.send (bringM_wf _ _) (by rw [hid]; exact hf) (bringM_small hc.gd _).1 (bringM_small hc.gd _).2
        · exact hc.mono (by omega)
      · exact hc.mono (by omega)
  · have h1 : StI n0 k (backF s m) := { h with gd := backF_gd h.gd m (by omega) (by omega) }
    exact h1.send (bringM_wf _ _) hf (bringM_small h1.gd _).1 (bringM_small h1.gd _).2
theorem StI.propose {n0 : Nde} {k : Nat} {s : Stp} (h : StI n0 k s) {kind : Int} {data : List UInt8} (he : EOk s.n kind data) : StI n0 (k + 7) (proposeF s kind data) := by
  have h1 := h.add he
  have h2 : StI n0 k (numF (addF s kind data)) := { h1 with gd := numF_gd h1.gd }
  exact h2.counts.all
theorem StI.new {n0 : Nde} {k : Nat} (m : List Int) : ∀ (l : List Int) (s : Stp), StI n0 k s → lastS s < most → StI n0 k (newF m s l)
  | [], s, h, _ => h
  | x :: l, s, h, hl => by
    have hla := h.gd.last
    by_cases hx : hasF m x = true
    · rw [newF_has hx]; exact StI.new m l s h hl
    · rw [newF_not hx]
      exact StI.new m l _ { h with gd := (h.gd.setMtch x.toNat 0 (Int.le_refl _) (by omega)).setNext x.toNat (lastS s + 1) (by omega) (by omega) } hl
theorem StI.change {n0 : Nde} {k : Nat} {s : Stp} (h : StI n0 k s) (hu : SFu s) (l : List Int) : StI n0 (k + 7) (changeF s l) := by
  unfold changeF
  split
  · rename_i hr
    split
    · split
      · split
        · exact h.mono (by omega)
        · rename_i hls
          split
          · split
            · exact h.mono (by omega)
            · split
              · rename_i hml
                have hn := newF_gd (memsS s) l s h.gd (by omega)
                refine (StI.new (memsS s) l s h (by omega)).propose ?_
                have he := eok_change hu hr hml
                unfold EOk at he ⊢
                rw [hn.2.1, hn.2.2.1]
                exact he
              · exact h.mono (by omega)
          · exact h.mono (by omega)
      · exact h.mono (by omega)
    · exact h.mono (by omega)
  · exact h.mono (by omega)
theorem StI.comp {n0 : Nde} {k : Nat} {s : Stp} (h : StI n0 k s) {i : Int} (i0 : s.n.log.index < i) (i1 : i ≤ s.n.commit) : StI n0 k (compF s i) := by
  have c1 := h.gd.c1; have hcm := h.cm
  have hh : hasL s.n.log i = true := hasL_iff.2 ⟨by omega, by unfold lastL at c1; omega⟩
  have hl := compact_last hh
  exact { h with
    gd := ⟨⟨⟨⟨h.gd.w.n.ln, h.gd.w.n.lm⟩, h.gd.w.vn, (fun h => by cases h), h.gd.w.out⟩, compact_lgok h.gd.lg h.gd.sl, compact_sound h.gd.sl hh⟩, h.gd.id0, h.gd.id1, h.gd.nx, h.gd.mt, by show i ≤ s.n.commit; exact i1, by show s.n.commit ≤ lastL (compactL s.n.log i); rw [hl]; exact c1⟩
    t0 := by
      show termL (compactL s.n.log i) (lastL (compactL s.n.log i)) ≤ s.n.term
      rw [hl, compact_term hh (by omega) (Int.le_refl _)]; exact h.t0
    lg := fun j j0 j1 j2 => by
      have j2' : i ≤ j := j2
      exact (compact_term hh j2' (by omega)).trans (h.lg j j0 j1 (by omega)) }
theorem StI.hear {n0 : Nde} {k : Nat} {s : Stp} (h : StI n0 k s) {m : Msg} (f0 : 1 ≤ m.frm) (f7 : m.frm ≤ 7) (hf : m.frm ≠ s.n.id) (mt : 1 ≤ m.term) (hmt : m.term ≤ s.n.term) (hi0 : 0 ≤ m.index) (hi1 : m.index ≤ most) (he : m.es.length < 2^39) (hge : s.n.log.es.length + 1 < 2^39) (hd : lightP m.es) (hml : m.mems.length < 2^40) (hv : s.n.votes.length + 1 < 2^40) : StI n0 (k + 7) (hearF s m) := by
  unfold hearF
  split
  · split
    · exact (h.tail (m := msg0 2) rfl rfl (tail0_wf rfl) hf).mono (by omega)
    · split
      · exact (h.tail (m := { msg0 4 with index := lastS s }) rfl rfl (tail0_wf rfl) hf).mono (by omega)
      · split
        · exact (h.tail (m := { msg0 4 with index := lastS s }) rfl rfl (tail0_wf rfl) hf).mono (by omega)
        · exact h.mono (by omega)
  · split
    · exact (h.ask f0 f7 hf).mono (by omega)
    · split
      · split
        · split
          · have hvn := voteF_n s m
            exact (h.vote f0 f7 hv).won (by rw [hvn.2]; omega) (by rw [hvn.1]; omega)
          · exact h.mono (by omega)
        · exact h.mono (by omega)
      · split
        · exact (h.app f0 f7 hf he (by omega) hd hmt).mono (by omega)
        · split
          · exact (h.snap f0 f7 hf (by omega)).mono (by omega)
          · split
            · split
              · split
                · exact (h.ack f0 f7 hf hi0 hi1).mono (by omega)
                · exact h.mono (by omega)
              · exact h.mono (by omega)
            · exact h.mono (by omega)
theorem StI.msg {n0 : Nde} {k : Nat} {s : Stp} (h : StI n0 k s) (ho : s.out = []) {m : Msg} (he : m.es.length < 2^39) (hge : s.n.log.es.length + 1 < 2^39) (hd : lightP m.es) (hml : m.mems.length < 2^40) (hv : s.n.votes.length + 1 < 2^40) : StI n0 (k + 7) (msgF s m) := by
  have hmo : most = 1152921504606846976 := rfl
  unfold msgF
  split
  · rename_i hva
    simp only [validM, Bool.and_eq_true, inF_iff, Bool.not_eq_true', decide_eq_false_iff_not] at hva
    split
    · exact (h.newT (by assumption) (by omega) ho).hear hva.2.2.1.1 hva.2.2.1.2 hva.2.1 hva.2.2.2.1.1 (Int.le_refl _) hva.2.2.2.2.1.1 (by omega) he hge hd hml (by show ([] : List Int).length + 1 < _; simp)
    · exact h.hear hva.2.2.1.1 hva.2.2.1.2 hva.2.1 hva.2.2.2.1.1 (by omega) hva.2.2.2.2.1.1 (by omega) he hge hd hml hv
  · exact h.mono (by omega)
/-- it begins so -/
theorem StI.start {n : Nde} {x : Inp} (hx : StepIn n x) (hs : soundN n = true) : StI n 0 (Stp.new n) := by
  have hu := sound_fu hx hs
  simp only [soundN, Bool.and_eq_true, Bool.or_eq_true, decide_eq_true_eq, inF_iff, cntF_iff] at hs
  obtain ⟨sl, id, tm, vo, le, ro, tr, co, ti, to_, tb, vt⟩ := hs
  have hv := hx.hv
  exact ⟨hu.toSGd, tm.1, hu.t00, tm.2, ti.1, ti.2, to_.1, to_.2, vo.1, vo.2, le.1, le.2, ro.1, ro.2, tr, vt, by show n.votes.length < _; omega, rfl, Int.le_refl _, fun _ _ => rfl, Int.le_refl _, fun _ _ _ _ => rfl, (fun m hm => by cases hm), Nat.le_refl _⟩
theorem step_I {n : Nde} {x : Inp} (hx : StepIn n x) (hs : soundN n = true) : StI n 7 (stepF n x) := by
  have h := StI.start hx hs
  have hu := sound_fu hx hs
  have hel := hx.hes; have hvl := hx.hv; have hml := hx.hml
  have e1 : (Stp.new n).n.log.es.length + 1 < 2^39 := hel
  have e2 : (Stp.new n).n.votes.length + 1 < 2^40 := by show n.votes.length + 1 < _; omega
  unfold stepF
  dsimp only
  split
  · exact h.tick _ rfl (by omega)
  · split
    · exact h.msg rfl hx.he e1 hx.hd hml e2
    · split
      · split
        · rename_i hr
          split
          · split
            · refine h.propose ⟨hu.t0, ?_, hu.t1, by decide, by decide, fun h => absurd h (by decide), hx.hdata, by omega⟩
              have htr : 0 < n.term ∨ n.role = 0 := hu.tr
              show 1 ≤ n.term
              rcases htr with h | h <;> omega
            · exact h.mono (by omega)
          · exact h.mono (by omega)
        · exact h.mono (by omega)
      · split
        · exact h.change hu _
        · split
          · split
            · split
              · exact (h.comp (by assumption) (by assumption)).mono (by omega)
              · exact h.mono (by omega)
            · exact h.mono (by omega)
          · exact h.mono (by omega)
/-- so a node that came of a sound one is sound -/
theorem StI.sound {n0 : Nde} {k : Nat} {s : Stp} (h : StI n0 k s) : soundN s.n = true := by
  have hmo : most = 1152921504606846976 := rfl
  simp only [soundN, Bool.and_eq_true, Bool.or_eq_true, decide_eq_true_eq, inF_iff, cntF_iff]
  refine ⟨h.gd.sl, ⟨h.gd.id0, h.gd.id1⟩, ⟨h.t0, h.t1⟩, ⟨h.v0, h.v1⟩, ⟨h.l0, h.l1⟩, ⟨h.r0, h.r1⟩, h.tr, ⟨h.gd.c0, h.gd.c1⟩, ⟨h.k0, h.k1⟩, ⟨h.o0, h.o1⟩, ?_, h.vt⟩
  refine (tabB_iff s.n 8 0).2 fun j _ hj => ?_
  simp only [cntF_iff]
  exact ⟨h.gd.nx j (by omega), h.gd.mt j (by omega)⟩
end Go.Pm
namespace Go.Pm
open Go.Proofs
set_option linter.unusedVariables false
set_option linter.unusedSimpArgs false
theorem sto_nd {n : Nde} (w : n.wf) {H : List AObj} {l : Nat} {cs : List AV} (hl : cs.length = 29) (h : H[l]? = some (.row 29 [.agg cs])) {β : Type} {K : List AObj → List Nat → Option β} : stoK 29 (.ptr l 1 0 0) n.av H K = K (H.set l n.row) [] := by
  rw [sto_row (n := 29) (v := n.av) h (Nde.len w) (Nde.one n) (belL_good _ _ (by have := Nde.good n; simpa [Nde.av, AV.good, AV.cells] using this)) (by omega)]
  have e : cs.take 0 ++ n.av.cells ++ cs.drop (0 + 29) = n.cs := by
    rw [List.take_zero, List.nil_append, List.drop_of_length_le (by omega), List.append_nil]; rfl
  rw [e]; rfl
theorem ld_in {x : Inp} {H : List AObj} {l : Nat} (w : x.msg.wf) (h : H[l]? = some x.row) : loadA true 22 (.ptr l 1 0 0) H = some x.av := by
  rw [ld_aggp (cs := x.cs) h (by rw [List.drop_zero, Inp.cslen w]; exact Nat.le_refl _), List.drop_zero, List.take_of_length_le (by rw [Inp.cslen w]; exact Nat.le_refl _)]; rfl
end Go.Pm
namespace Go.Pm
open Go.Proofs
set_option linter.unusedVariables false
set_option linter.unusedSimpArgs false
variable {B : Nat} {f : Nat} {cs : List AV}
theorem ty_tree (h : tyC Try.prog B f 45 cs) : goodL cs = true ∧ cs.all AV.one = true ∧ ∃ b l, cs = .int .i64 b :: l := by
  have hg := ty_good f 45 cs h
  refine ⟨hg.1, hg.2.1, ?_⟩
  obtain ⟨f', css, rfl, h2⟩ := ty_struct Try.underlying45 h
  obtain ⟨c1, rest, rfl, ⟨k1, _⟩, h2⟩ := forall2_1 h2
  obtain ⟨b, rfl⟩ := ty_i64 k1
  exact ⟨b, rest.flatten, rfl⟩
structure MsgB (B : Nat) (m : Msg) : Prop where
  w : m.wf
  ms : m.mems.length * 8 ≤ B
  e : m.es.length * 40 ≤ B
  d : ∀ e ∈ m.es, e.data.length ≤ B
theorem ty_msg (h : tyC Try.prog B f 47 cs) : ∃ m : Msg, cs = m.cs ∧ MsgB B m := by
  obtain ⟨f', css, rfl, h2⟩ := ty_struct Try.underlying47 h
  obtain ⟨c1, _, rfl, ⟨k1, _⟩, h2⟩ := forall2_1 h2
  obtain ⟨c2, _, rfl, ⟨k2, _⟩, h2⟩ := forall2_1 h2
  obtain ⟨c3, _, rfl, ⟨k3, _⟩, h2⟩ := forall2_1 h2
  obtain ⟨c4, _, rfl, ⟨k4, _⟩, h2⟩ := forall2_1 h2
  obtain ⟨c5, _, rfl, ⟨k5, _⟩, h2⟩ := forall2_1 h2
  obtain ⟨c6, _, rfl, ⟨k6, _⟩, h2⟩ := forall2_1 h2
  obtain ⟨c7, _, rfl, ⟨k7, _⟩, h2⟩ := forall2_1 h2
  obtain ⟨c8, _, rfl, ⟨k8, _⟩, h2⟩ := forall2_1 h2
  obtain ⟨c9, _, rfl, ⟨k9, _⟩, h2⟩ := forall2_1 h2
  obtain ⟨c10, _, rfl, ⟨k10, _⟩, h2⟩ := forall2_1 h2
  obtain ⟨c11, _, rfl, ⟨k11, _⟩, h2⟩ := forall2_1 h2
  obtain ⟨c12, _, rfl, ⟨k12, _⟩, h2⟩ := forall2_1 h2
  obtain ⟨c13, _, rfl, ⟨k13, k13l⟩, h2⟩ := forall2_1 h2
  obtain rfl := forall2_0 h2
  obtain ⟨n1, rfl⟩ := ty_i64 k1
  obtain ⟨n2, rfl⟩ := ty_i64 k2
  obtain ⟨n3, rfl⟩ := ty_i64 k3
  obtain ⟨n4, rfl⟩ := ty_i64 k4
  obtain ⟨n5, rfl⟩ := ty_i64 k5
  obtain ⟨n6, rfl⟩ := ty_i64 k6
  obtain ⟨n7, rfl⟩ := ty_i64 k7
  obtain ⟨n8, rfl⟩ := ty_bool k8
  obtain ⟨es, rfl, he1, he2⟩ := ty_ents k9
  obtain ⟨ms, rfl, hm⟩ := ty_ints k10
  obtain ⟨n11, rfl⟩ := ty_i64 k11
  obtain ⟨rt, rfl, _⟩ := ty_bytes k12
  obtain ⟨g1, g2, b, l, rfl⟩ := ty_tree k13
  have hl : (AV.int .i64 b :: l).length = 5 := k13l.trans (by kernel_rfl)
  refine ⟨⟨n1, n2, n3, n4, n5, n6, n7, n8, es, ms, .int .i64 n11 :: bys rt :: .int .i64 b :: l⟩, ?_, ⟨⟨?_, ?_, ?_, ⟨n11, rt.map u8, b, l, rfl⟩⟩, hm, he1, he2⟩⟩
  · simp [Msg.cs]
  · have hl' : l.length = 4 := by simpa using hl
    simp [hl']
  · show goodL ([.int .i64 n11, bys rt] ++ (.int .i64 b :: l)) = true
    rw [goodL_append, g1]; simp [goodL, AV.good]
  · show ([.int .i64 n11, bys rt] ++ (.int .i64 b :: l)).all AV.one = true
    rw [List.all_append, g2]; simp [AV.one, bys]
structure NdeB (B : Nat) (n : Nde) : Prop where
  w : n.wf
  l : LgB B n.log
  v : n.votes.length * 8 ≤ B
theorem ty_nde {a : AV} (e : a = mkE (agT Try.prog 32) cs) (h : tyC Try.prog B f 32 cs) : ∃ n : Nde, a = n.av ∧ NdeB B n := by
  obtain ⟨f', css, rfl, h2⟩ := ty_struct Try.underlying32 h
  obtain ⟨c1, _, rfl, ⟨k1, _⟩, h2⟩ := forall2_1 h2
  obtain ⟨c2, _, rfl, ⟨k2, _⟩, h2⟩ := forall2_1 h2
  obtain ⟨c3, _, rfl, ⟨k3, _⟩, h2⟩ := forall2_1 h2
  obtain ⟨c4, _, rfl, ⟨k4, _⟩, h2⟩ := forall2_1 h2
  obtain ⟨c5, _, rfl, ⟨k5, _⟩, h2⟩ := forall2_1 h2
  obtain ⟨c6, _, rfl, ⟨k6, _⟩, h2⟩ := forall2_1 h2
  obtain ⟨c7, _, rfl, ⟨k7, _⟩, h2⟩ := forall2_1 h2
  obtain ⟨c8, _, rfl, ⟨k8, _⟩, h2⟩ := forall2_1 h2
  obtain ⟨c9, _, rfl, ⟨k9, _⟩, h2⟩ := forall2_1 h2
  obtain ⟨c10, _, rfl, ⟨k10, _⟩, h2⟩ := forall2_1 h2
  obtain ⟨c11, _, rfl, ⟨k11, _⟩, h2⟩ := forall2_1 h2
  obtain ⟨c12, _, rfl, ⟨k12, _⟩, h2⟩ := forall2_1 h2
  obtain rfl := forall2_0 h2
  obtain ⟨n1, rfl⟩ := ty_i64 k1
  obtain ⟨n2, rfl⟩ := ty_i64 k2
  obtain ⟨n3, rfl⟩ := ty_i64 k3
  obtain ⟨n4, rfl⟩ := ty_i64 k4
  obtain ⟨n5, rfl⟩ := ty_i64 k5
  obtain ⟨g, rfl, hg⟩ := ty_lgc k6
  obtain ⟨n7, rfl⟩ := ty_i64 k7
  obtain ⟨vs, rfl, hv⟩ := ty_ints k8
  obtain ⟨nx, rfl, hnx⟩ := ty_arr k9
  obtain ⟨mt, rfl, hmt⟩ := ty_arr k10
  obtain ⟨n11, rfl⟩ := ty_i64 k11
  obtain ⟨n12, rfl⟩ := ty_i64 k12
  have ha : agT Try.prog 32 = true := by kernel_rfl
  rw [ha] at e
  refine ⟨⟨n1, n2, n3, n4, n5, g, n7, vs, nx, mt, n11, n12⟩, ?_, ⟨⟨hnx, hmt⟩, hg, hv⟩⟩
  rw [e]
  unfold Nde.av Nde.cs
  simp [mkE]
structure InpB (B : Nat) (x : Inp) : Prop where
  m : MsgB B x.msg
  d : x.data.length ≤ B
  s : x.mems.length * 8 ≤ B
theorem ty_inp {a : AV} (e : a = mkE (agT Try.prog 49) cs) (h : tyC Try.prog B f 49 cs) : ∃ x : Inp, a = x.av ∧ InpB B x := by
  obtain ⟨f', css, rfl, h2⟩ := ty_struct Try.underlying49 h
  obtain ⟨c1, _, rfl, ⟨k1, _⟩, h2⟩ := forall2_1 h2
  obtain ⟨c2, _, rfl, ⟨k2, _⟩, h2⟩ := forall2_1 h2
  obtain ⟨c3, _, rfl, ⟨k3, _⟩, h2⟩ := forall2_1 h2
  obtain ⟨c4, _, rfl, ⟨k4, _⟩, h2⟩ := forall2_1 h2
  obtain ⟨c5, _, rfl, ⟨k5, _⟩, h2⟩ := forall2_1 h2
  obtain ⟨c6, _, rfl, ⟨k6, _⟩, h2⟩ := forall2_1 h2
  obtain rfl := forall2_0 h2
  obtain ⟨n1, rfl⟩ := ty_i64 k1
  obtain ⟨n2, rfl⟩ := ty_i64 k2
  obtain ⟨n3, rfl⟩ := ty_i64 k3
  obtain ⟨m, rfl, hm⟩ := ty_msg k4
  obtain ⟨d, rfl, hd⟩ := ty_bytes k5
  obtain ⟨ms, rfl, hs⟩ := ty_ints k6
  have ha : agT Try.prog 49 = true := by kernel_rfl
  rw [ha] at e
  refine ⟨⟨n1, n2, n3, m, d, ms⟩, ?_, ⟨hm, hd, hs⟩⟩
  rw [e]
  unfold Inp.av Inp.cs
  simp [mkE]
end Go.Pm
namespace Go.Pm
open Go.Proofs
set_option linter.unusedVariables false
set_option linter.unusedSimpArgs false
section
variable {n A : Nde} {x : Inp} {l : List Msg}
theorem sound_J15 (hl : l.length < 2^60) (hm : ∀ m ∈ l, m.wf ∧ m.frm = n.id ∧ m.to ≠ n.id ∧ m.term = A.term) : ∀ (k i : Nat) (E : List Nat), i + k = l.length →
    law19_RaftSound_J15 0 (.ptr 0 1 0 0) (.bool true) (.ptr 2 1 0 0) (msgs l) (.int .i64 (i : Int)) [n.row, x.row, A.row] E = some (.bool true, [], [])
  | 0, i, E, hi => by
    refine law19_RaftSound_J15_of ?_
    have lv : lenV (msgs l) [n.row, x.row, A.row] = some (.int .i64 (l.length : Int)) := by simp [msgs]
    simp -implicitDefEqProofs only [lv, lss_int, Option.bind_some, condK_dec]
    rw [if_neg (by omega)]
    exact endB_good rfl
  | k + 1, i, E, hi => by
    refine law19_RaftSound_J15_of ?_
    have lv : lenV (msgs l) [n.row, x.row, A.row] = some (.int .i64 (l.length : Int)) := by simp [msgs]
    have hlt : i < l.length := by omega
    obtain ⟨hw, h1, h2, h3⟩ := hm _ (List.getElem_mem hlt)
    have e3 : IntKind.i64.wrap ((i : Int) + 1) = ((i + 1 : Nat) : Int) := w64 (by omega) (by omega)
    have ix : ∀ H, ixA 17 (msgs l) (.int .i64 (i : Int)) H = some (.ip l[i].cs) := fun H => ixA_lst (e := l[i].av) (by omega) (by simp [hlt]) (Msg.cslen hw)
    have la1 : ∀ H, loadA false 1 (.ip (l[i].cs.drop 1)) H = some (.int .i64 l[i].frm) := fun H => rfl
    have la2 : ∀ H, loadA false 1 (.ip (l[i].cs.drop 2)) H = some (.int .i64 l[i].to) := fun H => rfl
    have la3 : ∀ H, loadA false 1 (.ip (l[i].cs.drop 3)) H = some (.int .i64 l[i].term) := fun H => rfl
    have ln0 : loadA false 1 (.ptr 0 1 0 0) [n.row, x.row, A.row] = some (.int .i64 n.id) := rfl
    have ln2 : loadA false 1 (.ptr 2 1 0 1) [n.row, x.row, A.row] = some (.int .i64 A.term) := rfl
    simp -implicitDefEqProofs only [lv, lss_int, Option.bind_some, condK_dec]
    rw [if_pos (by omega)]
    simp -implicitDefEqProofs only [ix, offA_ip, offA_ptr, la1, la2, la3, ln0, ln2, Option.bind_some, Nat.zero_add, neq_int, eql_int, h1, decide_true, Bool.not_true, splitK_f]
    rw [decide_eq_false h2, splitK_f, h3, decide_eq_true rfl, Bool.not_true, condK_f]
    simp -implicitDefEqProofs only [add_int, Option.bind_some, e3]
    exact sound_J15 hl hm k (i + 1) E (by omega)
theorem sound_J10 (hl : l.length < 2^60) (hm : ∀ m ∈ l, m.wf ∧ m.frm = n.id ∧ m.to ≠ n.id ∧ m.term = A.term) (sn : Small n.log) (sA : Small A.log) (hc : n.commit ≤ lastL n.log) (hcA : n.commit ≤ lastL A.log)
    (hlg : ∀ i, n.log.index ≤ i → i ≤ n.commit → A.log.index ≤ i → termL A.log i = termL n.log i) : ∀ (k : Nat) (i : Int) (E : List Nat), i + k = n.commit + 1 → n.log.index ≤ i →
    law19_RaftSound_J10 0 (.ptr 0 1 0 0) (.bool true) (.ptr 2 1 0 0) (msgs l) (.int .i64 i) [n.row, x.row, A.row] E = some (.bool true, [], [])
  | 0, i, E, hi, h0 => by
    refine law19_RaftSound_J10_of ?_
    have lc : loadA false 1 (.ptr 0 1 0 9) [n.row, x.row, A.row] = some (.int .i64 n.commit) := rfl
    simp -implicitDefEqProofs only [offA_ptr, Nat.zero_add, lc, leq_int, Option.bind_some, condK_dec]
    rw [if_neg (by omega)]
    exact sound_J15 hl hm l.length 0 E (by omega)
  | k + 1, i, E, hi, h0 => by
    refine law19_RaftSound_J10_of ?_
    have n0 := sn.i0; have n1 := sn.i1; have hmo : most = 1152921504606846976 := rfl
    have hll : lastL n.log = n.log.index + n.log.es.length := rfl
    have e3 : IntKind.i64.wrap (i + 1) = i + 1 := by rw [wrap64] <;> omega
    have lc : loadA false 1 (.ptr 0 1 0 9) [n.row, x.row, A.row] = some (.int .i64 n.commit) := rfl
    have li : loadA false 1 (.ptr 2 1 0 5) [n.row, x.row, A.row] = some (.int .i64 A.log.index) := rfl
    have lA : loadA true 4 (.ptr 2 1 0 5) [n.row, x.row, A.row] = some A.log.av := ld_log (l := 2) (n := A) rfl
    have ln : loadA true 4 (.ptr 0 1 0 5) [n.row, x.row, A.row] = some n.log.av := ld_log (l := 0) (n := n) rfl
    simp -implicitDefEqProofs only [offA_ptr, Nat.zero_add, lc, leq_int, Option.bind_some, condK_dec]
    rw [if_pos (by omega)]
    simp -implicitDefEqProofs only [offA_ptr, Nat.zero_add, Nat.add_zero, li, geq_int, Option.bind_some, splitK_dec]
    split
    · rename_i hA
      have hhA : hasL A.log i = true := hasL_iff.2 ⟨hA, by unfold lastL at hcA; omega⟩
      have hhn : hasL n.log i = true := hasL_iff.2 ⟨h0, by omega⟩
      simp -implicitDefEqProofs only [lA, ln, Option.bind_some, callD_ok (show goodL [A.log.av, AV.int .i64 i] = true from by simp [goodL, AV.good]) (rTerm_ok A.log i sA hhA), callD_ok (show goodL [n.log.av, AV.int .i64 i] = true from by simp [goodL, AV.good]) (rTerm_ok n.log i sn hhn), neq_int, hlg i h0 (by omega) hA, decide_true, Bool.not_true, condK_f, add_int, e3]
      exact sound_J10 hl hm sn sA hc hcA hlg k (i + 1) E (by omega) (by omega)
    · simp -implicitDefEqProofs only [add_int, Option.bind_some, e3]
      exact sound_J10 hl hm sn sA hc hcA hlg k (i + 1) E (by omega) (by omega)
end
set_option maxHeartbeats 4000000 in
theorem RaftSound_law (n : Nde) (x : Inp) (hin : StepIn n x) : EV C n_law19_RaftSound [n.av, x.av] [] = some (.bool true, [], []) := by
  refine law19_RaftSound_of ?_
  have w := hin.nw
  have wm := hin.m
  dsimp only
  rw [new_nd w]
  simp -implicitDefEqProofs only [List.length_nil, List.nil_append]
  rw [new_inp wm]
  simp -implicitDefEqProofs only [List.length_singleton, List.singleton_append]
  rw [callK_ok (by simp [goodL]) up_ok]
  have gi : goodL [n.av, x.av] = true := by simp [goodL, Nde.good, Inp.good wm]
  rw [ld_node (l := 0) w rfl, Option.bind_some, ld_in (l := 1) wm rfl, Option.bind_some]
  rw [callK_ok gi (light19_ok w wm)]
  rw [ld_node (l := 0) w rfl, Option.bind_some, ld_in (l := 1) wm rfl, Option.bind_some]
  have hst := Step_ok n x hin
  unfold stepA at hst
  cases hs : soundN n with
  | false =>
    rw [hs, if_neg (by decide)] at hst
    rw [callK_ok gi hst, extA_0, Option.bind_some, extA_1, Option.bind_some, extA_2, Option.bind_some, show extA (.tup [noNde.av, .lst [], .int .i64 0, codeA 3]) 3 = some (codeA 3) from rfl, Option.bind_some, new_agg0 (by simp) rfl]
    simp -implicitDefEqProofs only [List.length_cons, List.length_nil, Nat.reduceAdd, Nat.zero_add, List.cons_append, List.nil_append]
    refine Eq.trans (sto_nd (n := noNde) ⟨rfl, rfl⟩ (l := 2) (H := [n.row, x.row, .row 29 [zN]]) (cs := zN.cells) rfl rfl) ?_
    simp -implicitDefEqProofs only [List.set_cons_succ, List.set_cons_zero, not_bool, Option.bind_some]
    cases light19 n x with
    | false => exact endB_good rfl
    | true =>
      simp -implicitDefEqProofs only [Bool.not_true, splitK_f]
      rw [show binA .neq (Go.TypeDesc.interface #[("Error", 139)]) (cmpT Try.prog) true (codeA 3) .nili = some (.bool true) from rfl, Option.bind_some, condK_t]
      exact endB_good rfl
  | true =>
    rw [hs, if_pos rfl] at hst
    have hi := step_I hin hs
    have h0 := StI.start hin hs
    have hsn := sound_small h0.gd.sl
    have hcl : n.commit ≤ lastL n.log := h0.gd.c1
    have hso := hi.sound
    obtain ⟨s, hsd⟩ : ∃ s, s = stepF n x := ⟨_, rfl⟩
    rw [← hsd] at hi hst hso
    have wA := hi.gd.w.n
    have ol := hi.ol
    have g1 := hi.gd.lg
    have vl := hi.vl
    have hsA := sound_small hi.gd.sl
    have hc1 := hi.gd.c1
    have hcm := hi.cm
    have htm := hi.tm
    have hfin : ∀ E, law19_RaftSound_J10 0 (.ptr 0 1 0 0) (.bool true) (.ptr 2 1 0 0) (msgs s.out) (.int .i64 n.log.index) [n.row, x.row, s.n.row] E = some (.bool true, [], []) := fun E => by
      have c0 : n.log.index ≤ n.commit := h0.gd.c0
      refine sound_J10 (by omega) (fun m hm => ⟨hi.gd.w.out m hm, (hi.out m hm).1, (hi.out m hm).2.1, (hi.out m hm).2.2.1⟩) hsn hsA hcl (by omega) hi.lg (n.commit + 1 - n.log.index).toNat n.log.index E (by omega) (Int.le_refl _)
    have hck : EV C n_raft_Check [s.n.av] [] = some (.nili, [], []) := by
      have := check_ok s.n wA (by omega) g1
      rw [hso] at this; exact this
    rw [callK_ok gi hst, show extA s.res 0 = some s.n.av from rfl, Option.bind_some, show extA s.res 1 = some (msgs s.out) from rfl, Option.bind_some, show extA s.res 2 = some (.int .i64 s.num) from rfl, Option.bind_some, show extA s.res 3 = some .nili from rfl, Option.bind_some, new_agg0 (by simp) rfl]
    simp -implicitDefEqProofs only [List.length_cons, List.length_nil, Nat.reduceAdd, Nat.zero_add, List.cons_append, List.nil_append]
    refine Eq.trans (sto_nd wA (l := 2) (H := [n.row, x.row, .row 29 [zN]]) (cs := zN.cells) rfl rfl) ?_
    simp -implicitDefEqProofs only [List.set_cons_succ, List.set_cons_zero, not_bool, Option.bind_some]
    cases light19 n x with
    | false => exact endB_good rfl
    | true =>
      simp -implicitDefEqProofs only [Bool.not_true, splitK_f]
      rw [neq_nil1, Option.bind_some, condK_f, ld_node (l := 2) wA rfl, Option.bind_some, callK_ok (by simp [goodL, Nde.good]) hck, neq_nil1, Option.bind_some, splitK_f]
      have l0 : loadA false 1 (.ptr 0 1 0 0) [n.row, x.row, s.n.row] = some (.int .i64 n.id) := rfl
      have l1 : loadA false 1 (.ptr 0 1 0 1) [n.row, x.row, s.n.row] = some (.int .i64 n.term) := rfl
      have l2 : loadA false 1 (.ptr 0 1 0 2) [n.row, x.row, s.n.row] = some (.int .i64 n.voted) := rfl
      have l5 : loadA false 1 (.ptr 0 1 0 5) [n.row, x.row, s.n.row] = some (.int .i64 n.log.index) := rfl
      have l9 : loadA false 1 (.ptr 0 1 0 9) [n.row, x.row, s.n.row] = some (.int .i64 n.commit) := rfl
      have m0 : loadA false 1 (.ptr 2 1 0 0) [n.row, x.row, s.n.row] = some (.int .i64 s.n.id) := rfl
      have m1 : loadA false 1 (.ptr 2 1 0 1) [n.row, x.row, s.n.row] = some (.int .i64 s.n.term) := rfl
      have m2 : loadA false 1 (.ptr 2 1 0 2) [n.row, x.row, s.n.row] = some (.int .i64 s.n.voted) := rfl
      have m9 : loadA false 1 (.ptr 2 1 0 9) [n.row, x.row, s.n.row] = some (.int .i64 s.n.commit) := rfl
      have d1 : decide (s.n.term < n.term) = false := decide_eq_false (by omega)
      have d2 : decide (s.n.commit < n.commit) = false := decide_eq_false (by omega)
      simp -implicitDefEqProofs only [offA_ptr, Nat.zero_add, Nat.add_zero, l0, l1, l2, l5, l9, m0, m1, m2, m9, Option.bind_some, lss_int, eql_int, neq_int, d1, d2, splitK_f, hi.id, decide_true, Bool.not_true, condK_f, hfin]
      by_cases ht : s.n.term = n.term
      · rw [decide_eq_true ht, splitK_t]
        by_cases hv : n.voted = 0
        · rw [decide_eq_true hv, Bool.not_true, splitK_f]
        · rw [decide_eq_false hv, Bool.not_false, splitK_t, decide_eq_true (hi.vd ht hv), Bool.not_true, splitK_f]
      · rw [decide_eq_false ht, splitK_f]
theorem raftSound_law {a0 a1 : AV} {u0 u1 : Nat} {l0 l1 : List AV} (e0 : a0 = mkE (agT Try.prog 32) l0) (y0 : tyC Try.prog (4096 * 1048576) u0 32 l0) (e1 : a1 = mkE (agT Try.prog 49) l1) (y1 : tyC Try.prog (4096 * 1048576) u1 49 l1) :
    EV C n_law19_RaftSound [a0, a1] [] = some (.bool true, [], []) := by
  obtain ⟨n, rfl, hn⟩ := ty_nde e0 y0
  obtain ⟨x, rfl, hx⟩ := ty_inp e1 y1
  have h1 := hn.l.m; have h2 := hn.l.e; have h3 := hn.v; have h4 := hx.m.ms; have h5 := hx.m.e; have h6 := hx.d; have h7 := hx.s
  exact RaftSound_law n x ⟨hn.w, hx.m.w, ⟨by omega, by omega, fun e he => by have := hn.l.d e he; omega⟩, by omega, by omega, by omega, fun e he => by have := hx.m.d e he; omega, by omega, by omega, by omega⟩
end Go.Pm
