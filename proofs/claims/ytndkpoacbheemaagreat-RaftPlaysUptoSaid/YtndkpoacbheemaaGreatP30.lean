/- A part of the proof: what the functions of the program answer, as plain lists and numbers. -/
import Derived.Test.YtndkpoacbheemaaGreatP29
namespace Go.Pm
open Go.Proofs
set_option linter.unusedVariables false
set_option linter.unusedSimpArgs false
set_option maxHeartbeats 8000000 in
theorem rhear_m {s : Stp} (h : SFu s) {m : Msg} (wm : m.wf) (he : m.es.length < 2^39) (hd : lightP m.es) (hml : m.mems.length < 2^40) (ho : s.out.length < 600000) : Meth n_ref19_Run_hear [m.av] s (.tup []) (msgF s m) := fun P R => by
 refine ref19_Run_hear_of ?_
 dsimp only
 have hmo : most = 1152921504606846976 := rfl
 rw [new_m wm]
 simp -implicitDefEqProofs only [ZD, Nat.reduceAdd, ZK, countD]
 have stay : (validM s.n m = false) → msgF s m = s := fun hv => by unfold msgF; rw [hv]; rfl
 by_cases c0 : m.to = s.n.id
 case neg =>
   rw [decide_eq_false c0, Bool.not_false, splitK_t, stay (by rw [Bool.eq_false_iff]; intro hv; simp only [validM, Bool.and_eq_true, inF_iff, decide_eq_true_eq, Bool.not_eq_true', decide_eq_false_iff_not] at hv; omega)]
   exact endB_n1 _ rfl
 rw [decide_eq_true c0, Bool.not_true, splitK_f]
 try simp -implicitDefEqProofs only [ZD, Nat.reduceAdd, ZK, countD]
 by_cases c1 : m.frm = s.n.id
 case pos =>
   rw [decide_eq_true c1, splitK_t, stay (by rw [Bool.eq_false_iff]; intro hv; simp only [validM, Bool.and_eq_true, inF_iff, decide_eq_true_eq, Bool.not_eq_true', decide_eq_false_iff_not] at hv; omega)]
   exact endB_n1 _ rfl
 rw [decide_eq_false c1, splitK_f]
 try simp -implicitDefEqProofs only [ZD, Nat.reduceAdd, ZK, countD]
 by_cases c2 : m.frm < 1
 case pos =>
   rw [decide_eq_true c2, splitK_t, stay (by rw [Bool.eq_false_iff]; intro hv; simp only [validM, Bool.and_eq_true, inF_iff, decide_eq_true_eq, Bool.not_eq_true', decide_eq_false_iff_not] at hv; omega)]
   exact endB_n1 _ rfl
 rw [decide_eq_false c2, splitK_f]
 try simp -implicitDefEqProofs only [ZD, Nat.reduceAdd, ZK, countD]
 by_cases c3 : 7 < m.frm
 case pos =>
   rw [decide_eq_true c3, splitK_t, stay (by rw [Bool.eq_false_iff]; intro hv; simp only [validM, Bool.and_eq_true, inF_iff, decide_eq_true_eq, Bool.not_eq_true', decide_eq_false_iff_not] at hv; omega)]
   exact endB_n1 _ rfl
 rw [decide_eq_false c3, splitK_f]
 try simp -implicitDefEqProofs only [ZD, Nat.reduceAdd, ZK, countD]
 by_cases c4 : m.term < 1
 case pos =>
   rw [decide_eq_true c4, splitK_t, stay (by rw [Bool.eq_false_iff]; intro hv; simp only [validM, Bool.and_eq_true, inF_iff, decide_eq_true_eq, Bool.not_eq_true', decide_eq_false_iff_not] at hv; omega)]
   exact endB_n1 _ rfl
 rw [decide_eq_false c4, splitK_f]
 try simp -implicitDefEqProofs only [ZD, Nat.reduceAdd, ZK, countD]
 by_cases c5 : 1152921504606846976 < m.term
 case pos =>
   rw [decide_eq_true c5, splitK_t, stay (by rw [Bool.eq_false_iff]; intro hv; simp only [validM, Bool.and_eq_true, inF_iff, decide_eq_true_eq, Bool.not_eq_true', decide_eq_false_iff_not] at hv; omega)]
   exact endB_n1 _ rfl
 rw [decide_eq_false c5, splitK_f]
 try simp -implicitDefEqProofs only [ZD, Nat.reduceAdd, ZK, countD]
 cases d6 : cntF m.index with
 | false =>
   have c6 : ¬ (0 ≤ m.index ∧ m.index ≤ most) := fun hh => by rw [cntF_iff.2 hh] at d6; cases d6
   rw [Bool.not_false, splitK_t, stay (by rw [Bool.eq_false_iff]; intro hv; simp only [validM, Bool.and_eq_true, inF_iff, decide_eq_true_eq, Bool.not_eq_true', decide_eq_false_iff_not] at hv; omega)]
   exact endB_n1 _ rfl
 | true =>
 have c6 := cntF_iff.1 d6
 rw [Bool.not_true, splitK_f]
 try simp -implicitDefEqProofs only [ZD, Nat.reduceAdd, ZK, countD]
 cases d7 : cntF m.lterm with
 | false =>
   have c7 : ¬ (0 ≤ m.lterm ∧ m.lterm ≤ most) := fun hh => by rw [cntF_iff.2 hh] at d7; cases d7
   rw [Bool.not_false, splitK_t, stay (by rw [Bool.eq_false_iff]; intro hv; simp only [validM, Bool.and_eq_true, inF_iff, decide_eq_true_eq, Bool.not_eq_true', decide_eq_false_iff_not] at hv; omega)]
   exact endB_n1 _ rfl
 | true =>
 have c7 := cntF_iff.1 d7
 rw [Bool.not_true, splitK_f]
 try simp -implicitDefEqProofs only [ZD, Nat.reduceAdd, ZK, countD]
 cases d8 : cntF m.commit with
 | false =>
   have c8 : ¬ (0 ≤ m.commit ∧ m.commit ≤ most) := fun hh => by rw [cntF_iff.2 hh] at d8; cases d8
   rw [Bool.not_false, condK_t, stay (by rw [Bool.eq_false_iff]; intro hv; simp only [validM, Bool.and_eq_true, inF_iff, decide_eq_true_eq, Bool.not_eq_true', decide_eq_false_iff_not] at hv; omega)]
   exact endB_n1 _ rfl
 | true =>
 have c8 := cntF_iff.1 d8
 rw [Bool.not_true, condK_f]
 try simp -implicitDefEqProofs only [ZD, Nat.reduceAdd, ZK, countD]
 have hval : validM s.n m = true := by
   simp only [validM, Bool.and_eq_true, inF_iff, decide_eq_true_eq, Bool.not_eq_true', decide_eq_false_iff_not]
   omega
 unfold msgF
 rw [if_pos hval]
 have f0 : 1 ≤ m.frm := by omega
 have f7 : m.frm ≤ 7 := by omega
 have hi0 : 0 ≤ m.index := by omega
 have hi1 : m.index ≤ most := by omega
 by_cases hlt : s.n.term < m.term
 · rw [decide_eq_true hlt, condK_t, if_pos hlt]
   have hu := newT_fu h hlt (show m.term ≤ most by omega)
   have hirr : ¬ m.term < m.term := Int.lt_irrefl _
   simp -implicitDefEqProofs only [ZS, Nat.reduceAdd, ZK, hirr, decide_false, if_false, if_true, decide_true, drawK_True]
   rw [show ({ s with n := { s.n with term := m.term, voted := 0, leader := 0, role := 0, votes := [] }, vn := true } : Stp) = newT s m from rfl]
   have ht := hu.toSGd
   have hog : (newT s m).out.length < 1000000 := by show s.out.length < _; omega
   have r0 : (newT s m).n.role = 0 := rfl
   have v0 : (newT s m).n.voted = 0 := rfl
   have hno : ¬ m.term < (newT s m).n.term := hirr
   have hel := h.el
   unfold hearF
   rw [if_neg hno]
   by_cases k1 : m.kind = 1
   · rw [if_pos k1, if_pos k1]
     rw [rtopK ht.toSOk]
     simp -implicitDefEqProofs only [ZS, Nat.reduceAdd, ZK, drawK_True]
     by_cases t1 : termL (newT s m).n.log (lastS (newT s m)) < m.lterm
     · rw [if_pos t1]
       exact rask_yes ht m hog (by unfold askedOk; simp only [Bool.and_eq_true, Bool.or_eq_true, decide_eq_true_eq]; exact ⟨r0, .inl v0, .inl t1⟩) P R
     · rw [if_neg t1]
       rw [rtopK ht.toSOk]
       simp -implicitDefEqProofs only [ZS, Nat.reduceAdd, ZK, drawK_True]
       by_cases t2 : m.lterm = termL (newT s m).n.log (lastS (newT s m))
       · rw [if_pos t2, rlastK ht.toSOk]
         simp -implicitDefEqProofs only [ZS, Nat.reduceAdd, ZK, drawK_True]
         by_cases t3 : lastS (newT s m) ≤ m.index
         · rw [if_pos t3, decide_eq_true t3]
           exact rask_yes ht m hog (by unfold askedOk; simp only [Bool.and_eq_true, Bool.or_eq_true, decide_eq_true_eq]; exact ⟨r0, .inl v0, .inr ⟨t2, t3⟩⟩) P R
         · rw [if_neg t3, decide_eq_false t3]
           exact rask_no ht m hog (by rw [Bool.eq_false_iff]; unfold askedOk; simp only [ne_eq, Bool.and_eq_true, Bool.or_eq_true, decide_eq_true_eq]; intro hh; rcases hh.2.2 with c | c; exact t1 c; exact t3 c.2) P R
       · rw [if_neg t2]
         exact rask_no ht m hog (by rw [Bool.eq_false_iff]; unfold askedOk; simp only [ne_eq, Bool.and_eq_true, Bool.or_eq_true, decide_eq_true_eq]; intro hh; rcases hh.2.2 with c | c; exact t1 c; exact t2 c.1) P R
   · rw [if_neg k1, if_neg k1]
     by_cases k2 : m.kind = 2
     · rw [if_pos k2, if_pos k2, if_neg (show ¬ (newT s m).n.role = 1 from by rw [r0]; decide)]
       exact endB_n1 _ rfl
     · rw [if_neg k2, if_neg k2]
       by_cases k3 : m.kind = 3
       · rw [if_pos k3, if_pos k3]
         simp -implicitDefEqProofs only [ZS, Nat.reduceAdd, lm_all wm]
         rw [rtakeK ht (by rw [r0]; decide) wm hi0 hi1 he (show s.n.log.es.length < _ by omega) hd hog]
         exact endB_n1 _ rfl
       · rw [if_neg k3, if_neg k3]
         by_cases k5 : m.kind = 5
         · rw [if_pos k5, if_pos k5]
           simp -implicitDefEqProofs only [ZS, Nat.reduceAdd, lm_all wm]
           rw [rinstallK ht wm hml hog]
           exact endB_n1 _ rfl
         · rw [if_neg k5, if_neg k5]
           by_cases k4 : m.kind = 4
           · rw [if_pos k4, if_pos k4, rmembersK ht.toSOk, if_neg (show ¬ (newT s m).n.role = 2 from by rw [r0]; decide)]
             simp -implicitDefEqProofs only [ZS, Nat.reduceAdd, ZK, drawK_True, callD_ok (show goodL [ints (memsS (newT s m)), AV.int .i64 m.frm] = true from by simp [goodL, AV.good]) (has17_ok _ m.frm ht.ml)]
             exact endB_n1 _ rfl
           · rw [if_neg k4, if_neg k4]
             exact endB_n1 _ rfl
 · rw [decide_eq_false hlt, condK_f, if_neg hlt]
   obtain ⟨t, htd⟩ : ∃ t, t = s := ⟨_, rfl⟩
   have hu : SFu t := by rw [htd]; exact h
   rw [← htd] at hlt ⊢
   have ht := hu.toSGd
   have hto : t.out = s.out := by rw [htd]
   have hog : t.out.length < 1000000 := by rw [hto]; omega
   have hvl := hu.vl; have hel := hu.el
   have hog2 : t.out.length < 600000 := by rw [hto]; exact ho
   have hmt : m.term ≤ t.n.term := by omega
   unfold hearF
   by_cases hold : m.term < t.n.term
   · simp -implicitDefEqProofs only [ZS, Nat.reduceAdd, ZK, hold, decide_true, if_true, drawK_True]
     by_cases k1 : m.kind = 1
     · rw [if_pos k1, if_pos k1]
       rw [fsay (m := msg0 2) ht.w (tail0_wf rfl) hog rfl (fun H => rfl) rfl]
       exact endB_n1 _ rfl
     · rw [if_neg k1, if_neg k1]
       by_cases k2 : m.kind = 2
       · rw [if_pos k2, if_neg (show ¬ m.kind = 3 by omega), if_neg (show ¬ m.kind = 5 by omega)]
         exact endB_n1 _ rfl
       · rw [if_neg k2]
         by_cases k3 : m.kind = 3
         · rw [if_pos k3, if_pos k3, rlastK ht.toSOk]
           simp -implicitDefEqProofs only [ZS, Nat.reduceAdd, ZK, drawK_True]
           rw [fsay (m := { msg0 4 with index := lastS t }) ht.w (tail0_wf rfl) hog rfl (fun H => rfl) rfl]
           exact endB_n1 _ rfl
         · rw [if_neg k3, if_neg k3]
           by_cases k5 : m.kind = 5
           · rw [if_pos k5, if_pos k5, rlastK ht.toSOk]
             simp -implicitDefEqProofs only [ZS, Nat.reduceAdd, ZK, drawK_True]
             rw [fsay (m := { msg0 4 with index := lastS t }) ht.w (tail0_wf rfl) hog rfl (fun H => rfl) rfl]
             exact endB_n1 _ rfl
           · rw [if_neg k5, if_neg k5]
             by_cases k4 : m.kind = 4
             · rw [if_pos k4, rmembersK ht.toSOk]
               simp -implicitDefEqProofs only [ZS, Nat.reduceAdd, ZK, drawK_True, callD_ok (show goodL [ints (memsS t), AV.int .i64 m.frm] = true from by simp [goodL, AV.good]) (has17_ok _ m.frm ht.ml)]
               exact endB_n1 _ rfl
             · rw [if_neg k4]
               exact endB_n1 _ rfl
   · simp -implicitDefEqProofs only [ZS, Nat.reduceAdd, ZK, hold, decide_false, if_false, drawK_True]
     by_cases k1 : m.kind = 1
     · rw [if_pos k1, if_pos k1]
       by_cases r0 : t.n.role = 0
       · rw [if_pos r0]
         by_cases v0 : t.n.voted = 0
         · rw [if_pos v0]
           rw [rtopK ht.toSOk]
           simp -implicitDefEqProofs only [ZS, Nat.reduceAdd, ZK, drawK_True]
           by_cases t1 : termL t.n.log (lastS t) < m.lterm
           · rw [if_pos t1]
             exact rask_yes ht m hog (by unfold askedOk; simp only [Bool.and_eq_true, Bool.or_eq_true, decide_eq_true_eq]; exact ⟨r0, .inl v0, .inl t1⟩) P R
           · rw [if_neg t1]
             rw [rtopK ht.toSOk]
             simp -implicitDefEqProofs only [ZS, Nat.reduceAdd, ZK, drawK_True]
             by_cases t2 : m.lterm = termL t.n.log (lastS t)
             · rw [if_pos t2, rlastK ht.toSOk]
               simp -implicitDefEqProofs only [ZS, Nat.reduceAdd, ZK, drawK_True]
               by_cases t3 : lastS t ≤ m.index
               · rw [if_pos t3, decide_eq_true t3]
                 exact rask_yes ht m hog (by unfold askedOk; simp only [Bool.and_eq_true, Bool.or_eq_true, decide_eq_true_eq]; exact ⟨r0, .inl v0, .inr ⟨t2, t3⟩⟩) P R
               · rw [if_neg t3, decide_eq_false t3]
                 exact rask_no ht m hog (by rw [Bool.eq_false_iff]; unfold askedOk; simp only [ne_eq, Bool.and_eq_true, Bool.or_eq_true, decide_eq_true_eq]; intro hh; rcases hh.2.2 with c | c; exact t1 c; exact t3 c.2) P R
             · rw [if_neg t2]
               exact rask_no ht m hog (by rw [Bool.eq_false_iff]; unfold askedOk; simp only [ne_eq, Bool.and_eq_true, Bool.or_eq_true, decide_eq_true_eq]; intro hh; rcases hh.2.2 with c | c; exact t1 c; exact t2 c.1) P R
         · rw [if_neg v0]
           by_cases v1 : t.n.voted = m.frm
           · rw [if_pos v1]
             rw [rtopK ht.toSOk]
             simp -implicitDefEqProofs only [ZS, Nat.reduceAdd, ZK, drawK_True]
             by_cases t1 : termL t.n.log (lastS t) < m.lterm
             · rw [if_pos t1]
               exact rask_yes ht m hog (by unfold askedOk; simp only [Bool.and_eq_true, Bool.or_eq_true, decide_eq_true_eq]; exact ⟨r0, .inr v1, .inl t1⟩) P R
             · rw [if_neg t1]
               rw [rtopK ht.toSOk]
               simp -implicitDefEqProofs only [ZS, Nat.reduceAdd, ZK, drawK_True]
               by_cases t2 : m.lterm = termL t.n.log (lastS t)
               · rw [if_pos t2, rlastK ht.toSOk]
                 simp -implicitDefEqProofs only [ZS, Nat.reduceAdd, ZK, drawK_True]
                 by_cases t3 : lastS t ≤ m.index
                 · rw [if_pos t3, decide_eq_true t3]
                   exact rask_yes ht m hog (by unfold askedOk; simp only [Bool.and_eq_true, Bool.or_eq_true, decide_eq_true_eq]; exact ⟨r0, .inr v1, .inr ⟨t2, t3⟩⟩) P R
                 · rw [if_neg t3, decide_eq_false t3]
                   exact rask_no ht m hog (by rw [Bool.eq_false_iff]; unfold askedOk; simp only [ne_eq, Bool.and_eq_true, Bool.or_eq_true, decide_eq_true_eq]; intro hh; rcases hh.2.2 with c | c; exact t1 c; exact t3 c.2) P R
               · rw [if_neg t2]
                 exact rask_no ht m hog (by rw [Bool.eq_false_iff]; unfold askedOk; simp only [ne_eq, Bool.and_eq_true, Bool.or_eq_true, decide_eq_true_eq]; intro hh; rcases hh.2.2 with c | c; exact t1 c; exact t2 c.1) P R
           · rw [if_neg v1]
             exact rask_no ht m hog (by rw [Bool.eq_false_iff]; unfold askedOk; simp only [ne_eq, Bool.and_eq_true, Bool.or_eq_true, decide_eq_true_eq]; intro hh; rcases hh.2.1 with c | c; exact v0 c; exact v1 c) P R
       · rw [if_neg r0]
         exact rask_no ht m hog (by rw [Bool.eq_false_iff]; unfold askedOk; simp only [ne_eq, Bool.and_eq_true, Bool.or_eq_true, decide_eq_true_eq]; intro hh; exact r0 hh.1) P R
     · rw [if_neg k1, if_neg k1]
       by_cases k2 : m.kind = 2
       · rw [if_pos k2, if_pos k2]
         by_cases r1 : t.n.role = 1
         · rw [if_pos r1, decide_eq_true r1]
           cases hok : m.ok with
           | false =>
             simp -implicitDefEqProofs only [ZS, Nat.reduceAdd, ZK, Bool.false_eq_true, if_false]
             exact endB_n1 _ rfl
           | true =>
             simp -implicitDefEqProofs only [ZS, Nat.reduceAdd, ZK, if_true, has17V ht.w m.frm (show t.n.votes.length ≤ 2^60 by omega)]
             have hvn := voteF_n t m
             have hvg := voteF_gd ht m
             have hev : EOk (voteF t m).n 0 [] := by
               unfold EOk
               rw [hvn.1, hvn.2]
               exact ⟨hu.t0, by omega, hu.t1, by decide, by decide, fun h => absurd h (by decide), by decide, by omega⟩
             have hvo : (voteF t m).out = t.out := by unfold voteF; split <;> rfl
             have hvl : (voteF t m).n.votes.length ≤ 2^60 := by
               unfold voteF; split
               · omega
               · show (t.n.votes ++ [m.frm]).length ≤ _; rw [List.length_append, List.length_singleton]; omega
             have won : ∀ X : List AObj, (callK (EV C) false n_ref19_Run_most [.ptr (P.length + 1) 1 0 0, (voteF t m).vav] (hp P (voteF t m) (R ++ X)) fun a258 H258 E258 =>
                 condK a258
                   (callK (EV C) false n_ref19_Run_leads [.ptr (P.length + 1) 1 0 0] H258 fun a259 H259 E259 => endB false false (P.length + 2 + R.length) (.tup []) H259 (E259 ++ E258))
                   (endB false false (P.length + 2 + R.length) (.tup []) H258 E258)) = some (.tup [], hp P (wonF (voteF t m)) R, []) := fun X => by
               rw [rmostV hvg.toSOk hvl]
               unfold wonF
               cases hm : mostF (memsS (voteF t m)) (voteF t m).n.votes with
               | true =>
                 simp -implicitDefEqProofs only [condK_t, if_true]
                 rw [rleadsK hvg hev (by rw [hvo]; omega)]
                 exact endB_n1 X rfl
               | false =>
                 simp -implicitDefEqProofs only [condK_f, Bool.false_eq_true, if_false]
                 exact endB_n1 X rfl
             cases hx : hasF t.n.votes m.frm with
             | true =>
               have hve : voteF t m = t := by unfold voteF; rw [if_pos hx]
               simp -implicitDefEqProofs only [ZS, Nat.reduceAdd]
               have := won [mrow m]
               rw [hve] at this ⊢
               exact this
             | false =>
               simp -implicitDefEqProofs only [ZS, Nat.reduceAdd]
               have rk : ∀ (H : List AObj) (K : AV → List AObj → List Nat → Option R3), rawK 1 0 (.int .i64 0) [] H K = K (.slc H.length 0 0 0) (H ++ [.row 1 []]) [] := fun H K => rfl
               rw [rk]
               simp -implicitDefEqProofs only [ZS, Nat.reduceAdd, ZK, drawK_True]
               have hlen : P.length + 2 + (R.length + 1) = P.length + 2 + (R ++ [mrow m]).length := by simp
               have hap : R ++ [mrow m, AObj.row 1 []] = (R ++ [mrow m]) ++ [AObj.row 1 []] := by simp
               have hz : R ++ [mrow m, AObj.row 1 (t.n.votes.map i64)] = (R ++ [mrow m]) ++ [AObj.row 1 (t.n.votes.map i64)] := by simp
               have lit : ∀ (x : Int) (H : List AObj), litD 1 1 (.int .i64 0) [(0, .int .i64 x)] H = some (ints [x]) := fun x H => rfl
               rw [hap, appK_row (n := 0) (z := 1) (es := []) (ys := t.n.votes.map i64) (elems_vav ht.w _) (hp_M P t (R ++ [mrow m]) [] _) rfl (lz_i64 _) (by decide) (by decide) (by decide) (by simp; omega)]
               rw [hp_setR, show (((R ++ [mrow m]) ++ [AObj.row 1 []]).set (R ++ [mrow m]).length (.row 1 ([] ++ t.n.votes.map i64))) = (R ++ [mrow m]) ++ [.row 1 (t.n.votes.map i64)] from by simp, esc_good (goodL_i64 _)]
               simp -implicitDefEqProofs only [ZS, Nat.reduceAdd, ZK, drawK_True, lit]
               rw [hz, ← hp_app P t (R ++ [mrow m]) [.row 1 (t.n.votes.map i64)]]
               have hcl : Cl (hp P t (R ++ [mrow m])) 1 (t.n.votes.map i64) (.slc (P.length + 2 + (R ++ [mrow m]).length) 0 (t.n.votes.map i64).length (t.n.votes.map i64).length) [.row 1 (t.n.votes.map i64)] := .inr ⟨by rw [hp_len], rfl⟩
               refine (cl_app hcl (ys := [i64 m.frm]) rfl (goodL_i64 _) rfl rfl (by decide) (by decide) (by decide) (by simp; omega)).trans ?_
               rw [show AV.lst (t.n.votes.map i64 ++ [i64 m.frm]) = ints (t.n.votes ++ [m.frm]) from by simp [ints]]
               have hvd : voteF t m = { t with n := { t.n with votes := t.n.votes ++ [m.frm] }, vn := false } := by unfold voteF; rw [if_neg (by rw [hx]; decide)]
               have hw := won [mrow m, .dead]
               rw [hvd] at hw ⊢
               simp -implicitDefEqProofs only [ZS, Nat.reduceAdd]
               exact hw
         · rw [if_neg r1, decide_eq_false r1]
           simp -implicitDefEqProofs only [ZS, Nat.reduceAdd]
           exact endB_n1 _ rfl
       · rw [if_neg k2, if_neg k2]
         by_cases k3 : m.kind = 3
         · rw [if_pos k3, if_pos k3]
           by_cases r2 : t.n.role = 2
           · rw [decide_eq_true r2]
             simp -implicitDefEqProofs only [ZS, Nat.reduceAdd]
             unfold appF'
             rw [if_pos r2]
             exact endB_n1 _ rfl
           · rw [decide_eq_false r2]
             simp -implicitDefEqProofs only [ZS, Nat.reduceAdd, lm_all wm]
             rw [rtakeK ht r2 wm hi0 hi1 he (by omega) hd hog]
             exact endB_n1 _ rfl
         · rw [if_neg k3, if_neg k3]
           by_cases k5 : m.kind = 5
           · rw [if_pos k5, if_pos k5]
             simp -implicitDefEqProofs only [ZS, Nat.reduceAdd, lm_all wm]
             rw [rinstallK ht wm hml hog]
             exact endB_n1 _ rfl
           · rw [if_neg k5, if_neg k5]
             by_cases k4 : m.kind = 4
             · rw [if_pos k4, if_pos k4, rmembersK ht.toSOk]
               simp -implicitDefEqProofs only [ZS, Nat.reduceAdd, ZK, drawK_True, callD_ok (show goodL [ints (memsS t), AV.int .i64 m.frm] = true from by simp [goodL, AV.good]) (has17_ok _ m.frm ht.ml)]
               by_cases r2 : t.n.role = 2
               · rw [if_pos r2, if_pos r2]
                 cases hin : hasF (memsS t) m.frm with
                 | true =>
                   simp -implicitDefEqProofs only [ZS, Nat.reduceAdd, lm_all wm, if_true]
                   rw [rackedK ht hu.t0 wm f0 f7 hi0 hi1 (by omega)]
                   exact endB_n1 _ rfl
                 | false =>
                   simp -implicitDefEqProofs only [ZS, Nat.reduceAdd, Bool.false_eq_true, if_false]
                   exact endB_n1 _ rfl
               · rw [if_neg r2, if_neg r2]
                 exact endB_n1 _ rfl
             · rw [if_neg k4, if_neg k4]
               exact endB_n1 _ rfl
end Go.Pm
namespace Go.Pm
open Go.Proofs
set_option linter.unusedVariables false
set_option linter.unusedSimpArgs false
theorem rbytes_J3 (l : List Int) (hm : ∀ x ∈ l, 1 ≤ x ∧ x ≤ 7) (hl : l.length ≤ 7) : ∀ (m i : Nat), i + m = l.length →
  ref17_Bytes_J3 0 (ints l) (.slc 0 0 i i) (.int .i64 (i : Int)) [vro 1 ((byL (l.take i)).map u8)] [] = some (bys (byL l), [], [])
 | 0, i, hi => by
  refine ref17_Bytes_J3_of ?_
  simp -implicitDefEqProofs only [lenV_ints, lss_int, Option.bind_some, condK_dec]
  rw [if_neg (by omega), List.take_of_length_le (by omega)]
  have hf : frz [vro 1 ((byL l).map u8)] (.slc 0 0 i i) = some (bys (byL l)) := frz_vro (z := 1) rfl (by simp [byL]; omega) (goodL_u8 _)
  exact endB_frz hf (good_bys _)
 | m + 1, i, hi => by
  refine ref17_Bytes_J3_of ?_
  have hlt : i < l.length := by omega
  have hx := hm _ (List.getElem_mem hlt)
  have e3 : IntKind.i64.wrap ((i : Int) + 1) = ((i + 1 : Nat) : Int) := w64 (by omega) (by omega)
  have cv : cvI .u8 (.int .i64 l[i]) = some (u8 (UInt8.ofNat l[i].toNat)) := by
   have eu : AV.int .u8 (IntKind.u8.wrap l[i]) = u8 (UInt8.ofNat l[i].toNat) := by
    rw [u8_nat, show l[i] = ((l[i].toNat : Nat) : Int) from by omega, wrap_u8]
    rfl
   exact congrArg some eu
  have lit : ∀ (x : UInt8) (H : List AObj) (K : AV → List AObj → List Nat → Option R3), litK 1 1 (.int .u8 0) [(0, u8 x)] H K = K (bys [x]) H [] := fun x H K => rfl
  simp -implicitDefEqProofs only [lenV_ints, lss_int, Option.bind_some, condK_dec]
  rw [if_pos (by omega), ix_ints hlt, Option.bind_some, ld_i, Option.bind_some, cv, Option.bind_some, lit]
  rw [appK_vro (l := 0) (z := 1) (n := i) (es := (byL (l.take i)).map u8) (ys := [u8 (UInt8.ofNat l[i].toNat)]) rfl rfl (by simp [byL]; omega) rfl (by decide) (by decide) (by decide) (by simp; omega)]
  rw [esc_good (by rfl)]
  simp -implicitDefEqProofs only [add_int, Option.bind_some, e3, List.append_nil]
  have e5 : (byL (l.take i)).map u8 ++ [u8 (UInt8.ofNat l[i].toNat)] = (byL (l.take (i + 1))).map u8 := by
   rw [List.take_succ_eq_append_getElem hlt]; simp only [byL, List.map_append, List.map_cons, List.map_nil]
  rw [e5]
  exact rbytes_J3 l hm hl m (i + 1) (by omega)
theorem rbytes_ok (l : List Int) (hm : ∀ x ∈ l, 1 ≤ x ∧ x ≤ 7) (hl : l.length ≤ 7) : EV C n_ref17_Bytes [ints l] [] = some (bys (byL l), [], []) := by
 refine ref17_Bytes_of ?_
 exact rbytes_J3 l hm hl l.length 0 (by omega)
end Go.Pm
namespace Go.Pm
open Go.Proofs
set_option linter.unusedVariables false
set_option linter.unusedSimpArgs false
/-- the numbers from p + 1 on, n of them -/
def upI (p : Int) : Nat → List Int
 | 0 => []
 | n + 1 => (p + 1) :: upI (p + 1) n
theorem upI_mem : ∀ (n : Nat) (p x : Int), x ∈ upI p n → p < x
 | 0, p, x, h => by simp [upI] at h
 | n + 1, p, x, h => by
  simp only [upI, List.mem_cons] at h
  rcases h with rfl | h
  · omega
  · have := upI_mem n _ x h; omega
theorem incr_has : ∀ {l : List Int} {p : Int}, incr p l = true → ∀ x, x ≤ p → hasF l x = false
 | [], p, h, x, hx => rfl
 | y :: l, p, h, x, hx => by
  simp only [incr, Bool.and_eq_true, decide_eq_true_eq] at h
  have h2 := incr_has h.2.2 x (by omega)
  have : ¬ y = x := by omega
  simp only [hasF] at h2
  simp [hasF, this, h2]
theorem incr_up : ∀ (n : Nat) (p : Int) (l : List Int), incr p l = true → p + n = 7 → l = (upI p n).filter (hasF l)
 | 0, p, l, h, hp => by
  cases l with
  | nil => rfl
  | cons y l =>
   simp only [incr, Bool.and_eq_true, decide_eq_true_eq] at h
   omega
 | n + 1, p, l, h, hp => by
  cases l with
  | nil => simp [hasF]
  | cons y l =>
   have h0 := h
   simp only [incr, Bool.and_eq_true, decide_eq_true_eq] at h
   by_cases hy : y = p + 1
   · subst hy
     have ih := incr_up n (p + 1) l h.2.2 (by omega)
     rw [upI, List.filter_cons, show hasF ((p + 1) :: l) (p + 1) = true from by simp [hasF], if_pos rfl]
     congr 1
     rw [show (upI (p + 1) n).filter (hasF ((p + 1) :: l)) = (upI (p + 1) n).filter (hasF l) from List.filter_congr fun x hx => by
      have := upI_mem _ _ _ hx
      have : ¬ p + 1 = x := by omega
      simp [hasF, this]]
     exact ih
   · have hh : incr (p + 1) (y :: l) = true := by simp [incr, h.2.1, h.2.2]; omega
     have ih := incr_up n (p + 1) (y :: l) hh (by omega)
     rw [upI, List.filter_cons, if_neg (by rw [incr_has hh (p + 1) (by omega)]; decide)]
     exact ih
def cntP (p : Int → Bool) (l : List Int) : Nat := (l.filter p).length
theorem cnt_cons (p : Int → Bool) (x : Int) (l : List Int) : cntP p (x :: l) = if p x = true then cntP p l + 1 else cntP p l := by
 unfold cntP
 rw [List.filter_cons]
 split <;> rfl
theorem any_cnt (p : Int → Bool) (l : List Int) : l.any p = decide (0 < cntP p l) := by
 induction l with
 | nil => rfl
 | cons x l ih =>
  simp only [List.any_cons, cntP, List.filter_cons] at ih ⊢
  cases h : p x <;> simp [ih]
theorem cnt_split (p q : Int → Bool) (l : List Int) : cntP (fun x => p x != q x) l = cntP (fun x => p x && !q x) l + cntP (fun x => q x && !p x) l ∧
  cntP p l = cntP (fun x => p x && q x) l + cntP (fun x => p x && !q x) l ∧ cntP q l = cntP (fun x => p x && q x) l + cntP (fun x => q x && !p x) l := by
 induction l with
 | nil => exact ⟨rfl, rfl, rfl⟩
 | cons x l ih =>
  simp only [cntP, List.filter_cons] at ih ⊢
  obtain ⟨h1, h2, h3⟩ := ih
  cases hp : p x <;> cases hq : q x <;> simp <;> omega
theorem any_filter (p q : Int → Bool) (l : List Int) : (l.filter p).any q = l.any fun x => p x && q x := by
 rw [List.any_filter]
theorem step_cnt (a b : List Int) (ha : mayL a = true) (hb : mayL b = true) : stepC a b = decide (cntP (fun x => hasF a x != hasF b x) [1, 2, 3, 4, 5, 6, 7] = 1) := by
 have ha' := ha; have hb' := hb
 simp only [mayL, Bool.and_eq_true, decide_eq_true_eq] at ha' hb'
 have ea := incr_up 7 0 a ha'.2 (by decide)
 have eb := incr_up 7 0 b hb'.2 (by decide)
 have eu : upI 0 7 = [1, 2, 3, 4, 5, 6, 7] := by decide
 rw [eu] at ea eb
 obtain ⟨h1, h2, h3⟩ := cnt_split (hasF a) (hasF b) [1, 2, 3, 4, 5, 6, 7]
 have la : a.length = cntP (hasF a) [1, 2, 3, 4, 5, 6, 7] := congrArg List.length ea
 have lb : b.length = cntP (hasF b) [1, 2, 3, 4, 5, 6, 7] := congrArg List.length eb
 have na : (a.any fun x => !hasF b x) = decide (0 < cntP (fun x => hasF a x && !hasF b x) [1, 2, 3, 4, 5, 6, 7]) := by
   rw [← any_cnt, ← any_filter, ← ea]
 have nb : (b.any fun x => !hasF a x) = decide (0 < cntP (fun x => hasF b x && !hasF a x) [1, 2, 3, 4, 5, 6, 7]) := by
   rw [← any_cnt, ← any_filter, ← eb]
 unfold stepC stepQ
 rw [ha, hb, na, nb, h1]
 split
 · simp only [Bool.true_and]
   rw [Bool.eq_iff_iff]
   simp only [Bool.and_eq_true, decide_eq_true_eq, Bool.not_eq_true', decide_eq_false_iff_not]
   omega
 · simp only [Bool.true_and]
   rw [Bool.eq_iff_iff]
   simp only [Bool.and_eq_true, decide_eq_true_eq, Bool.not_eq_true', decide_eq_false_iff_not]
   omega
theorem rHas17K (l : List Int) (x : Int) (hl : l.length ≤ 2^60) {β : Type} {H : List AObj} {K : Kt β} : callK (EV C) false n_ref17_Has [ints l, .int .i64 x] H K = K (.bool (hasF l x)) H [] := callK_ok (by simp [goodL, AV.good]) (has17_ok l x hl)
theorem rMay17K (l : List Int) (hl : l.length < 2^62) {β : Type} {H : List AObj} {K : Kt β} : callK (EV C) false n_ref17_May [ints l] H K = K (.bool (mayL l)) H [] := callK_ok (by simp [goodL]) (ref17_May_ok l hl)
theorem neq_bool (a b : Bool) : binA .neq Go.TypeDesc.bool (cmpT Tryz.prog) false (.bool a) (.bool b) = some (.bool (a != b)) := by cases a <;> cases b <;> rfl
theorem rstep_J5 (a b : List Int) (ha : a.length ≤ 2^60) (hb : b.length ≤ 2^60) : ∀ (k : Nat) (p c : Int), p + k = 7 → 0 ≤ p → 0 ≤ c → c ≤ p →
  ref17_Step_J5 0 (ints a) (ints b) (.int .i64 c) (.int .i64 (p + 1)) [] [] = some (.bool (decide (c + cntP (fun x => hasF a x != hasF b x) (upI p k) = 1)), [], [])
 | 0, p, c, hp, h0, hc, hcp => by
  refine ref17_Step_J5_of ?_
  simp -implicitDefEqProofs only [leq_int, Option.bind_some, condK_dec]
  rw [if_neg (by omega), eql_int, Option.bind_some]
  refine (endB_good rfl).trans ?_
  simp [upI, cntP]
 | k + 1, p, c, hp, h0, hc, hcp => by
  refine ref17_Step_J5_of ?_
  have e3 : IntKind.i64.wrap (p + 1 + 1) = p + 1 + 1 := wrap64 (by omega) (by omega)
  have e4 : IntKind.i64.wrap (c + 1) = c + 1 := wrap64 (by omega) (by omega)
  simp -implicitDefEqProofs only [leq_int, Option.bind_some, condK_dec]
  rw [if_pos (by omega), rHas17K a _ ha, rHas17K b _ hb, neq_bool, Option.bind_some]
  cases hx : (hasF a (p + 1) != hasF b (p + 1)) with
  | true =>
   simp -implicitDefEqProofs only [condK_t, add_int, Option.bind_some, e3, e4, List.append_nil]
   rw [rstep_J5 a b ha hb k (p + 1) (c + 1) (by omega) (by omega) (by omega) (by omega)]
   rw [upI, cnt_cons, if_pos hx]
   congr 4
   rw [eq_iff_iff]
   omega
  | false =>
   simp -implicitDefEqProofs only [condK_f, add_int, Option.bind_some, e3, List.append_nil]
   rw [rstep_J5 a b ha hb k (p + 1) c (by omega) (by omega) (by omega) (by omega)]
   rw [upI, cnt_cons, if_neg (by rw [hx]; decide)]
theorem rstep_ok (a b : List Int) (ha : a.length ≤ 2^60) (hb : b.length ≤ 2^60) : EV C n_ref17_Step [ints a, ints b] [] = some (.bool (stepC a b), [], []) := by
 refine ref17_Step_of ?_
 dsimp only
 rw [rMay17K a (by omega), not_bool, Option.bind_some]
 cases h1 : mayL a with
 | false =>
  rw [show stepC a b = false from by
   cases h : stepC a b with
   | false => rfl
   | true => rw [(stepC_may h).1] at h1; cases h1]
  simp -implicitDefEqProofs only [Bool.not_false, splitK_t]
  exact endB_good rfl
 | true =>
  simp -implicitDefEqProofs only [Bool.not_true, splitK_f]
  rw [rMay17K b (by omega), not_bool, Option.bind_some]
  cases h2 : mayL b with
  | false =>
   rw [show stepC a b = false from by
    cases h : stepC a b with
    | false => rfl
    | true => rw [(stepC_may h).2] at h2; cases h2]
   simp -implicitDefEqProofs only [Bool.not_false, condK_t]
   exact endB_good rfl
  | true =>
   simp -implicitDefEqProofs only [Bool.not_true, condK_f, List.append_nil]
   refine (rstep_J5 a b ha hb 7 0 0 (by decide) (by decide) (by decide) (by decide)).trans ?_
   rw [step_cnt a b h1 h2, show upI 0 7 = [1, 2, 3, 4, 5, 6, 7] from by decide]
   congr 4
   rw [eq_iff_iff]
   omega
theorem newF_in {m : List Int} {s : Stp} {x : Int} {l : List Int} (p : Int → Bool) (h : p x = true) : newF m s ((x :: l).filter p) = newF m s (x :: l.filter p) := by rw [List.filter_cons, if_pos h]
theorem newF_out {m : List Int} {s : Stp} {x : Int} {l : List Int} (p : Int → Bool) (h : p x = false) : newF m s ((x :: l).filter p) = newF m s (l.filter p) := by rw [List.filter_cons, if_neg (by rw [h]; decide)]
end Go.Pm
namespace Go.Pm
open Go.Proofs
set_option linter.unusedVariables false
set_option linter.unusedSimpArgs false
theorem endB_keep {n : Nat} {v : AV} {H : List AObj} : endB true true n v H [] = some (v, H, []) := rfl
theorem ld_xmems {x : Inp} (w : x.msg.wf) {H : List AObj} {q : Nat} (h : H[q]? = some x.row) : loadA false 1 (.ptr q 1 0 21) H = some (ints x.mems) := ld_fld h (by
 show x.cs[21]? = _
 have hcl : x.msg.cs.length = 17 := Msg.cslen w
 unfold Inp.cs
 rw [List.getElem?_append_right (by simp), List.getElem?_append_right (by simp [hcl])]; simp [hcl])
theorem ld_xdata {x : Inp} (w : x.msg.wf) {H : List AObj} {q : Nat} (h : H[q]? = some x.row) : loadA false 1 (.ptr q 1 0 20) H = some (bys x.data) := ld_fld h (by
 show x.cs[20]? = _
 have hcl : x.msg.cs.length = 17 := Msg.cslen w
 unfold Inp.cs
 rw [List.getElem?_append_right (by simp), List.getElem?_append_right (by simp [hcl])]; simp [hcl])
theorem ld_xmsg {x : Inp} (w : x.msg.wf) {H : List AObj} {q : Nat} (h : H[q]? = some x.row) : loadA true 17 (.ptr q 1 0 3) H = some x.msg.av := by
 have hcl : x.msg.cs.length = 17 := Msg.cslen w
 rw [ld_aggp (cs := x.cs) h (by simp [Inp.cs, hcl])]
 have e : x.cs.drop 3 = x.msg.cs ++ [bys x.data, ints x.mems] := rfl
 rw [e, List.take_left' hcl]; rfl
theorem rprop_add {s : Stp} (h : SGd s) (kind : Int) (data : List UInt8) (he : EOk s.n kind data) (ho : s.out.length < 800000) (P : List AObj) (K : List AObj → List Nat → Option R3) :
  (callK (EV C) false n_ref19_Run_add [.ptr (P.length + 1) 1 0 0, .int .i64 kind, bys data] (hp P s []) fun a25 H25 E25 =>
  callK (EV C) false n_ref19_Run_last [.ptr (P.length + 1) 1 0 0] H25 fun a26 H26 E26 =>
  stoK 1 (.ptr (P.length + 1) 1 0 30) a26 H26 fun H29 E29 =>
  callK (EV C) false n_ref19_Run_counts [.ptr (P.length + 1) 1 0 0] H29 fun a30 H30 E30 =>
  callK (EV C) false n_ref19_Run_sendAll [.ptr (P.length + 1) 1 0 0] H30 fun a31 H31 E31 => K H31 (E31 ++ (E30 ++ (E29 ++ (E26 ++ E25))))) = K (hp P (proposeF s kind data) []) [] := by
 have ha := addF_gd h he
 have hn := numF_gd ha
 have hc := countsF_gd hn
 have hat := addF_lastT h.toSOk (kind := kind) (data := data) he.1
 rw [raddK h.toSOk kind data (by have := he.2.2.2.2.2.2.1; omega), rlastK ha.toSOk, ss_num ha.w.n]
 rw [show ({ (addF s kind data) with num := lastS (addF s kind data) } : Stp) = numF (addF s kind data) from rfl]
 rw [rcountsK hn (by show termL (addF s kind data).n.log (lastL (addF s kind data).n.log) ≤ (addF s kind data).n.term; rw [(addF_n s kind data).2.2.2.2.2.2]; exact hat), sendAllK hc (by rw [(countsF_out _).1]; show (addF s kind data).out.length < _; rw [(addF_n s kind data).2.2.2.2.1]; omega)]
 rfl
theorem rstep_J22 (x : Inp) (wm : x.msg.wf) (P : List AObj) (q : Nat) (hq : ∀ s R, (hp P s R)[q]? = some x.row) (mm : List Int) (hmm : mm.length ≤ 2^60) (hml : mayL x.mems = true) (nn : Nat) :
  ∀ (k : Nat) (p : Int) (s : Stp), p + k = 7 → 0 ≤ p → SGd s → lastS s < most → EOk s.n 2 (byL x.mems) → s.out.length < 800000 →
  ref19_Step_J22 nn (.ptr q 1 0 0) (.ptr (P.length + 1) 1 0 0) (ints mm) (.int .i64 (p + 1)) (hp P s []) [] = some (.ptr (P.length + 1) 1 0 0, hp P (proposeF (newF mm s ((upI p k).filter (hasF x.mems))) 2 (byL x.mems)) [], [])
 | 0, p, s, hp7, h0, h, hls, he, ho => by
  refine ref19_Step_J22_of ?_
  have hlen := may_len hml
  simp -implicitDefEqProofs only [ZS, Nat.reduceAdd, ld_xmems wm (hq _ _)]
  rw [if_neg (by omega), callK_ok (show goodL [ints x.mems] = true from by simp [goodL]) (rbytes_ok x.mems (may_mem hml) hlen)]
  have := rprop_add h 2 (byL x.mems) he ho P (fun H31 E31 => endB true true nn (.ptr (P.length + 1) 1 0 0) H31 (E31 ++ []))
  simp -implicitDefEqProofs only [List.append_assoc, List.append_nil] at this ⊢
  rw [this]
  rfl
 | k + 1, p, s, hp7, h0, h, hls, he, ho => by
  refine ref19_Step_J22_of ?_
  have hlen := may_len hml
  have hmo : most = 1152921504606846976 := rfl
  have hla := h.last
  have e3 : IntKind.i64.wrap (p + 1 + 1) = p + 1 + 1 := wrap64 (by omega) (by omega)
  have e4 : IntKind.i64.wrap (lastS s + 1) = lastS s + 1 := wrap64 (by omega) (by omega)
  have x8 : (p + 1).toNat < 8 := by omega
  have ar : ∀ off, arA 8 1 (.ptr (P.length + 1) 1 0 off) (.int .i64 (p + 1)) = some (.ptr (P.length + 1) 1 0 (off + (p + 1).toNat)) := fun off => arA_int (by omega) (by omega)
  simp -implicitDefEqProofs only [ZS, Nat.reduceAdd, ld_xmems wm (hq _ _)]
  rw [if_pos (by omega), rHas17K x.mems _ (by omega)]
  rw [upI]
  cases hx : hasF x.mems (p + 1) with
  | false =>
   simp -implicitDefEqProofs only [ZS, Nat.reduceAdd, add_int, e3]
   rw [newF_out _ hx]
   exact rstep_J22 x wm P q hq mm hmm hml nn k (p + 1) s (by omega) (by omega) h hls he ho
  | true =>
   simp -implicitDefEqProofs only [ZS, Nat.reduceAdd]
   rw [rHas17K mm _ hmm, newF_in _ hx]
   cases hh : hasF mm (p + 1) with
   | true =>
    simp -implicitDefEqProofs only [ZS, Nat.reduceAdd, add_int, e3]
    rw [newF_has hh]
    exact rstep_J22 x wm P q hq mm hmm hml nn k (p + 1) s (by omega) (by omega) h hls he ho
   | false =>
    have h1 := h.setMtch (p + 1).toNat 0 (Int.le_refl _) (by omega)
    have h2 := h1.setNext (p + 1).toNat (lastS s + 1) (by omega) (by omega)
    have w1 := h1.w.n
    simp -implicitDefEqProofs only [ZS, Nat.reduceAdd, ar, ss_mtch h.w.n x8]
    rw [rlastK h1.toSOk]
    simp -implicitDefEqProofs only [ZS, Nat.reduceAdd, add_int, show IntKind.i64.wrap (lastS ({ s with n := { s.n with mtch := s.n.mtch.set (p + 1).toNat 0 } } : Stp) + 1) = lastS s + 1 from e4, ar, ss_next w1 x8, e3]
    rw [newF_not (by rw [hh]; decide)]
    exact rstep_J22 x wm P q hq mm hmm hml nn k (p + 1) _ (by omega) (by omega) h2 hls he ho
end Go.Pm
namespace Go.Pm
open Go.Proofs
set_option linter.unusedVariables false
set_option linter.unusedSimpArgs false
theorem rcompK {s : Stp} {g : Lg} (hg : LgOk g) (hs : soundL g = true) {i : Int} (hi : hasL g i = true) {β : Type} {H : List AObj} {K : Kt β} : callK (EV C) false n_ref18_Compact [g.av, .int .i64 i] H K = K (compactL g i).av H [] :=
 callK_ok (by simp [goodL, AV.good]) (rCompact_ok g i hg hs hi)
theorem rTermD' (g : Lg) (i : Int) (h : Small g) (hi : hasL g i = true) (H : List AObj) : callD (EV C) n_ref18_Term [g.av, .int .i64 i] H = some (.int .i64 (termL g i)) := callD_ok (by simp [goodL, AV.good]) (rTerm_ok g i h hi)
set_option maxHeartbeats 4000000 in
theorem rstep19_ok (n : Nde) (x : Inp) (h : StepIn n x) (hs : soundN n = true) (H0 : List AObj) : EV C n_ref19_Step [n.av, x.av] H0 = some (.ptr (H0.length + 3) 1 0 0, hp (H0 ++ [n.row, x.row]) (stepF n x) [], []) := by
 refine ref19_Step_of ?_
 have hmo : most = 1152921504606846976 := rfl
 have w := h.nw
 have hf := sound_fu h hs
 dsimp only
 rw [new_nd w, new_inp h.m]
 simp -implicitDefEqProofs only [List.append_assoc, List.length_append, List.length_singleton, List.singleton_append]
 obtain ⟨P, hP⟩ : ∃ P, P = H0 ++ [n.row, x.row] := ⟨_, rfl⟩
 have hPl : P.length = H0.length + 2 := by rw [hP]; simp
 have p0 : P[H0.length]? = some n.row := by rw [hP, List.getElem?_append_right (by omega)]; simp
 have p1 : P[H0.length + 1]? = some x.row := by rw [hP, List.getElem?_append_right (by omega)]; simp
 rw [← hP]
 rw [ld_node w p0, Option.bind_some]
 have hfill : ∀ K : List AV → Option R3, (fillB (AV.cells (.agg [(.int .i64 0), (.int .i64 0), (.int .i64 0), (.int .i64 0), (.int .i64 0), (.int .i64 0), (.int .i64 0), .nils, .nils, (.int .i64 0), .nils, (.int .i64 0), (.int .i64 0), (.int .i64 0), (.int .i64 0), (.int .i64 0), (.int .i64 0), (.int .i64 0), (.int .i64 0), (.int .i64 0), (.int .i64 0), (.int .i64 0), (.int .i64 0), (.int .i64 0), (.int .i64 0), (.int .i64 0), (.int .i64 0), (.int .i64 0), (.int .i64 0), .nils, (.int .i64 0)])) [(0, 29, n.av)]).bind K = K (n.cs ++ [.nils, .int .i64 0]) := fun K => by
   have hl := Nde.len w
   simp only [fillB, AV.cells, Nde.av, hl, List.length_cons, List.length_nil, AV.isBad, List.take_zero, List.nil_append]
   rw [if_pos ⟨trivial, by omega, trivial⟩]
   rfl
 rw [hfill, trm_n w, new_agg0 (by simp) (by simp only [List.all_append, Nde.one n]; rfl)]
 obtain ⟨s, hss⟩ : ∃ s, s = Stp.new n := ⟨_, rfl⟩
 have hrow : (P ++ [.vrow]) ++ [.row (n.cs ++ [AV.slc P.length 0 0 0, .int .i64 0]).length [.agg (n.cs ++ [AV.slc P.length 0 0 0, .int .i64 0])]] = hp P s [] := by
   have e1 : s.cs P.length = n.cs ++ [AV.slc P.length 0 0 0, .int .i64 0] := by
     rw [hss]
     simp [Stp.cs, Stp.hd, Stp.new, Nde.cs, Stp.eav, Stp.vav, nilv]
   have e2 : (n.cs ++ [AV.slc P.length 0 0 0, .int .i64 0]).length = 31 := by simp [Nde.len w]
   have e3 : orow s = .vrow := by rw [hss]; rfl
   unfold hp srow
   rw [e2, e1, e3]
   simp
 rw [hrow]
 rw [show (P ++ [AObj.vrow]).length = P.length + 1 from by simp]
 rw [← hss] at hf
 have hsn : s.n = n := by rw [hss]; rfl
 have hso : s.out.length < 500000 := by rw [hss]; show ([] : List Msg).length < _; simp
 have hlt : ∀ {i : Nat} {X : AObj} (s : Stp) (R : List AObj), P[i]? = some X → (hp P s R)[i]? = some X := fun s R hi => by
   unfold hp
   rw [List.getElem?_append_left (by exact (List.getElem?_eq_some_iff.1 hi).1)]; exact hi
 have x1 : ∀ (s : Stp) (R : List AObj), (hp P s R)[H0.length + 1]? = some x.row := fun s R => hlt s R p1
 have x0 : ∀ (s : Stp) (R : List AObj), (hp P s R)[H0.length]? = some n.row := fun s R => hlt s R p0
 have lx0 : ∀ (s : Stp) (R : List AObj), loadA false 1 (.ptr (H0.length + 1) 1 0 0) (hp P s R) = some (.int .i64 x.kind) := fun s R => ld_fld (x1 s R) rfl
 have lx1 : ∀ (s : Stp) (R : List AObj), loadA false 1 (.ptr (H0.length + 1) 1 0 1) (hp P s R) = some (.int .i64 x.draw) := fun s R => ld_fld (x1 s R) rfl
 have lx2 : ∀ (s : Stp) (R : List AObj), loadA false 1 (.ptr (H0.length + 1) 1 0 2) (hp P s R) = some (.int .i64 x.index) := fun s R => ld_fld (x1 s R) rfl
 have lx20 : ∀ (s : Stp) (R : List AObj), loadA false 1 (.ptr (H0.length + 1) 1 0 20) (hp P s R) = some (bys x.data) := fun s R => ld_xdata h.m (x1 s R)
 have lx21 : ∀ (s : Stp) (R : List AObj), loadA false 1 (.ptr (H0.length + 1) 1 0 21) (hp P s R) = some (ints x.mems) := fun s R => ld_xmems h.m (x1 s R)
 have lx3 : ∀ (s : Stp) (R : List AObj), loadA true 17 (.ptr (H0.length + 1) 1 0 3) (hp P s R) = some x.msg.av := fun s R => ld_xmsg h.m (x1 s R)
 have ln0 : ∀ (s : Stp) (R : List AObj), loadA false 1 (.ptr H0.length 1 0 0) (hp P s R) = some (.int .i64 n.id) := fun s R => ld_fld (x0 s R) rfl
 have ln1 : ∀ (s : Stp) (R : List AObj), loadA false 1 (.ptr H0.length 1 0 1) (hp P s R) = some (.int .i64 n.term) := fun s R => ld_fld (x0 s R) rfl
 have ln3 : ∀ (s : Stp) (R : List AObj), loadA false 1 (.ptr H0.length 1 0 3) (hp P s R) = some (.int .i64 n.role) := fun s R => ld_fld (x0 s R) rfl
 have ln5 : ∀ (s : Stp) (R : List AObj), loadA false 1 (.ptr H0.length 1 0 5) (hp P s R) = some (.int .i64 n.log.index) := fun s R => ld_fld (x0 s R) rfl
 have ln9 : ∀ (s : Stp) (R : List AObj), loadA false 1 (.ptr H0.length 1 0 9) (hp P s R) = some (.int .i64 n.commit) := fun s R => ld_fld (x0 s R) rfl
 have lnl : ∀ (s : Stp) (R : List AObj), loadA true 4 (.ptr H0.length 1 0 5) (hp P s R) = some n.log.av := fun s R => ld_log (x0 s R)
 have tk : ∀ (K : AV → List AObj → List Nat → Option R3), callK (EV C) false n_ref19_Run_tick [.ptr (P.length + 1) 1 0 0, .int .i64 x.draw] (hp P s []) K = K (.tup []) (hp P (tickF s x.draw) []) [] := fun K => (rtick_m hf x.draw (by omega)).call0 rfl
 have mk : ∀ (K : AV → List AObj → List Nat → Option R3), callK (EV C) false n_ref19_Run_hear [.ptr (P.length + 1) 1 0 0, x.msg.av] (hp P s []) K = K (.tup []) (hp P (msgF s x.msg) []) [] := fun K => (rhear_m hf h.m h.he h.hd h.hml (by omega)).call0 (by simp [goodL, Msg.avgood h.m])
 have lk : ∀ (K : AV → List AObj → List Nat → Option R3), callK (EV C) false n_ref19_Run_last [.ptr (P.length + 1) 1 0 0] (hp P s []) K = K (.int .i64 (lastS s)) (hp P s []) [] := fun K => rlastK hf.toSOk
 have e3 : H0.length + 3 = P.length + 1 := by omega
 have ml : (memsS s).length ≤ 2^60 := by have := may_len hf.mems; omega
 rw [e3]
 unfold stepF
 rw [← hss]
 dsimp only
 -- compaction
 have comp : ∀ (nn : Nat), n.log.index < x.index → x.index ≤ n.commit → (callK (EV C) false n_ref18_Compact [n.log.av, .int .i64 x.index] (hp P s []) fun a73 H73 E73 =>
     stoK 4 (.ptr (P.length + 1) 1 0 5) a73 H73 fun H77 E77 =>
     (loadA false 1 (.ptr (H0.length + 1) 1 0 2) H77).bind fun a79 =>
     stoK 1 (.ptr (P.length + 1) 1 0 30) a79 H77 fun H82 E82 =>
     endB true true nn (.ptr (P.length + 1) 1 0 0) H82 (E82 ++ (E77 ++ E73))) = some (.ptr (P.length + 1) 1 0 0, hp P (compF s x.index) [], []) := fun nn hi hc => by
   have hsl : soundL n.log = true := by have := hf.sl; rw [hsn] at this; exact this
   have hc1 : n.commit ≤ lastL n.log := by have := hf.c1; rw [hsn] at this; exact this
   rw [rcompK (s := s) h.lg hsl (hasL_iff.2 ⟨by omega, by have : lastL n.log = n.log.index + n.log.es.length := rfl; omega⟩), ss_lav]
   rw [lx2, Option.bind_some, ss_num (s := { s with n := { s.n with log := compactL n.log x.index }, en := false }) ⟨hf.w.n.ln, hf.w.n.lm⟩]
   rw [show compF s x.index = { s with n := { s.n with log := compactL n.log x.index }, en := false, num := x.index } from by unfold compF; rw [hsn]]
   rfl
 have finS : ∀ nn, endB true true nn (.ptr (P.length + 1) 1 0 0) (hp P s []) [] = some (.ptr (P.length + 1) 1 0 0, hp P s [], []) := fun nn => rfl
 have stepK : ∀ (H : List AObj) (K : AV → List AObj → List Nat → Option R3), callK (EV C) false n_ref17_Step [ints (memsS s), ints x.mems] H K = K (.bool (stepC (memsS s) x.mems)) H [] := fun H K => callK_ok (by simp [goodL]) (rstep_ok _ _ ml (by have := h.hmems; omega))
 simp -implicitDefEqProofs only [ZS, Nat.reduceAdd, ln3]
 by_cases r2 : n.role = 2
 · rw [if_pos r2, lk]
   simp -implicitDefEqProofs only [ZS, Nat.reduceAdd, lx0, lx1, lx2, lx3, tk, mk]
   by_cases k0 : x.kind = 0
   · rw [if_pos k0, if_pos k0]; exact endB_keep
   · rw [if_neg k0, if_neg k0]
     by_cases k1 : x.kind = 1
     · rw [if_pos k1, if_pos k1]; exact endB_keep
     · rw [if_neg k1, if_neg k1]
       by_cases k2 : x.kind = 2
       · rw [if_pos k2, if_pos k2, if_pos r2]
         by_cases hl : lastS s < most
         · rw [show ∀ a b : Option R3, (if lastS s < 1152921504606846976 then a else b) = a from fun a b => if_pos hl]
           simp -implicitDefEqProofs only [ZS, Nat.reduceAdd, lx20, lenV_bys]
           by_cases hd : (x.data.length : Int) ≤ 4096
           · rw [if_pos hd, if_pos hd, if_pos hl]
             have he : EOk s.n 1 x.data := by
               have ht0 := hf.t0; have ht1 := hf.t1; have hel := hf.el; have hdd := h.hdata
               have hsr : s.n.role = 2 := by rw [hsn]; exact r2
               have htr : 0 < s.n.term := by rcases hf.tr with h | h <;> omega
               exact ⟨ht0, by omega, ht1, by decide, by decide, fun h => absurd h (by decide), hdd, by omega⟩
             have := rprop_add hf.toSGd 1 x.data he (by omega) P (fun H31 E31 => endB true true H0.length (.ptr (P.length + 1) 1 0 0) H31 (E31 ++ []))
             simp -implicitDefEqProofs only [List.append_assoc, List.append_nil] at this ⊢
             rw [this]; rfl
           · rw [if_neg hd, if_neg hd]; exact finS _
         · rw [show ∀ a b : Option R3, (if lastS s < 1152921504606846976 then a else b) = b from fun a b => if_neg hl]
           rw [if_neg hl]
           split <;> exact finS _
       · rw [if_neg k2, if_neg k2]
         by_cases k3 : x.kind = 3
         · rw [if_pos k3, if_pos k3, rmembersK hf.toSOk]
           simp -implicitDefEqProofs only [ZS, Nat.reduceAdd, lx21]
           rw [stepK]
           simp -implicitDefEqProofs only [ZS, Nat.reduceAdd, ln0]
           rw [rHas17K _ _ ml, openK hf.toSGd]
           unfold changeF
           rw [hsn, if_pos r2]
           have hid : s.n.id = n.id := by rw [hsn]
           have hhc : hasL n.log n.commit = true := by have h0 := hf.c0; have h1 := hf.c1; rw [hsn] at h0 h1; exact hasL_iff.2 ⟨h0, h1⟩
           by_cases hls : most ≤ lastS s
           · rw [show decide (lastS s < 1152921504606846976) = false from decide_eq_false (by omega)]
             simp -implicitDefEqProofs only [ZS, Nat.reduceAdd]
             rw [show (if stepC (memsS s) x.mems = true then if hasF (memsS s) n.id = true then if most ≤ lastS s then s else if termL n.log n.commit = n.term then if pendF s = true then s else if mayL x.mems = true then proposeF (newF (memsS s) s x.mems) 2 (byL x.mems) else s else s else s else s) = s from by rw [if_pos hls]; simp only [ite_self]]
             exact finS _
           · rw [show decide (lastS s < 1152921504606846976) = true from decide_eq_true (by omega), if_neg hls]
             simp -implicitDefEqProofs only [ZS, Nat.reduceAdd]
             cases hst : stepC (memsS s) x.mems with
             | false =>
               simp -implicitDefEqProofs only [ZS, Nat.reduceAdd, Bool.false_eq_true, if_false]
               exact finS _
             | true =>
               have hml := (stepC_may hst).2
               simp -implicitDefEqProofs only [ZS, Nat.reduceAdd, if_true]
               cases hh : hasF (memsS s) n.id with
               | false =>
                 simp -implicitDefEqProofs only [ZS, Nat.reduceAdd, Bool.false_eq_true, if_false]
                 exact finS _
               | true =>
                 simp -implicitDefEqProofs only [ZS, Nat.reduceAdd, if_true]
                 cases hpd : pendF s with
                 | true =>
                  simp -implicitDefEqProofs only [ZS, Nat.reduceAdd, if_true, ite_self]
                  exact finS _
                 | false =>
                  simp -implicitDefEqProofs only [ZS, Nat.reduceAdd, Bool.false_eq_true, if_false, lnl, ln9, ln1, rTermD' n.log n.commit (by have := hf.toSOk.sm; rw [hsn] at this; exact this) hhc]
                  by_cases ht : termL n.log n.commit = n.term
                  · rw [show (!decide (termL n.log n.commit = n.term)) = false from by simp [ht], if_pos ht, if_pos hml]
                    simp -implicitDefEqProofs only [ZS, Nat.reduceAdd]
                    have he : EOk s.n 2 (byL x.mems) := eok_change hf (by rw [hsn]; exact r2) hml
                    have := rstep_J22 x h.m P (H0.length + 1) (fun s R => x1 s R) (memsS s) ml hml H0.length 7 0 s (by decide) (by decide) hf.toSGd (by omega) he (by omega)
                    refine this.trans ?_
                    have el := incr_up 7 0 x.mems (by have := hml; simp only [mayL, Bool.and_eq_true] at this; exact this.2) (by decide)
                    rw [← el]
                  · rw [show (!decide (termL n.log n.commit = n.term)) = true from by simp [ht], if_neg ht]
                    simp -implicitDefEqProofs only [ZS, Nat.reduceAdd]
                    exact finS _
         · rw [if_neg k3, if_neg k3]
           by_cases k4 : x.kind = 4
           · rw [if_pos k4, if_pos k4]
             simp -implicitDefEqProofs only [ZS, Nat.reduceAdd, lx2, ln5, ln9, lnl]
             by_cases hi : n.log.index < x.index
             · rw [if_pos hi, if_pos hi]
               by_cases hc : x.index ≤ n.commit
               · rw [if_pos hc, if_pos hc]
                 exact comp H0.length hi hc
               · rw [if_neg hc, if_neg hc]; exact finS _
             · rw [if_neg hi, if_neg hi]; exact finS _
           · rw [if_neg k4, if_neg k4]; exact finS _
 · rw [if_neg r2]
   simp -implicitDefEqProofs only [ZS, Nat.reduceAdd, lx0, lx1, lx2, lx3, tk, mk]
   by_cases k0 : x.kind = 0
   · rw [if_pos k0, if_pos k0]; exact endB_keep
   · rw [if_neg k0, if_neg k0]
     by_cases k1 : x.kind = 1
     · rw [if_pos k1, if_pos k1]; exact endB_keep
     · rw [if_neg k1, if_neg k1]
       by_cases k2 : x.kind = 2
       · rw [if_pos k2, if_pos k2, if_neg r2]; exact finS _
       · rw [if_neg k2, if_neg k2]
         by_cases k3 : x.kind = 3
         · rw [if_pos k3, if_pos k3, rmembersK hf.toSOk]
           simp -implicitDefEqProofs only [ZS, Nat.reduceAdd, lx21]
           rw [stepK]
           simp -implicitDefEqProofs only [ZS, Nat.reduceAdd, ln0]
           rw [rHas17K _ _ ml, openK hf.toSGd]
           unfold changeF
           rw [hsn, if_neg r2]
           exact finS _
         · rw [if_neg k3, if_neg k3]
           by_cases k4 : x.kind = 4
           · rw [if_pos k4, if_pos k4]
             simp -implicitDefEqProofs only [ZS, Nat.reduceAdd, lx2, ln5, ln9, lnl]
             by_cases hi : n.log.index < x.index
             · rw [if_pos hi, if_pos hi]
               by_cases hc : x.index ≤ n.commit
               · rw [if_pos hc, if_pos hc]
                 exact comp H0.length hi hc
               · rw [if_neg hc, if_neg hc]; exact finS _
             · rw [if_neg hi, if_neg hi]; exact finS _
           · rw [if_neg k4, if_neg k4]; exact finS _
end Go.Pm
namespace Go.Pm
open Go.Proofs
set_option linter.unusedVariables false
set_option linter.unusedSimpArgs false
/-- the end of a run, looked at -/
theorem frz_outS {P R : List AObj} {s : Stp} (ws : s.wf) : frz (hp P s R) (.slc P.length 0 s.out.length s.out.length) = some (msgs s.out) := frz_vro (z := 17) (hp_O P s R) (by simp) (goodL_out ws)
theorem ld_nav {P R : List AObj} {s : Stp} (w : s.n.wf) : loadA true 29 (.ptr (P.length + 1) 1 0 0) (hp P s R) = some s.nav := by
 have h : (hp P s R)[P.length + 1]? = some (srow P.length s) := hp_S P s R
 rw [ld_aggp (cs := s.cs P.length) h (by simp [Stp.cs, Stp.hd, w.ln, w.lm])]
 have e : s.cs P.length = (s.hd ++ (s.n.next.map i64 ++ (s.n.mtch.map i64 ++ [.int .i64 s.n.ticks, .int .i64 s.n.timeout]))) ++ [.slc P.length 0 s.out.length s.out.length, .int .i64 s.num] := by simp [Stp.cs]
 rw [List.drop_zero, e, List.take_left' (by simp [Stp.hd, w.ln, w.lm])]
 rfl
theorem kills_nav {s : Stp} (w : s.wf) : kills s.nav = [] := by
 have h1 : killsL s.hd = [] := by
  unfold Stp.hd
  simp only [killsL, kills_eav, kills_vav, kills_good _ (good_ints _), kills, List.append_nil]
 have h2 : ∀ (a b : List AV), killsL (a ++ b) = killsL a ++ killsL b := fun a b => by
  induction a with
  | nil => rfl
  | cons x a ih => simp only [List.cons_append, killsL, ih, List.append_assoc]
 unfold Stp.nav
 simp only [kills, h2, h1, killsL_good _ (goodL_i64 _), killsL, List.append_nil]
theorem sameD {A : Nde} {s : Stp} {H : List AObj} (ws : s.wf) (hA : NdeOk s.n) : callD (EV C) n_ref19_Same [s.n.av, s.nav] H = some (.bool true) :=
 callD_nil (bs := [s.n.av, s.n.av]) (by simp only [killsL, kills_nav ws, kills_good _ (Nde.good s.n), List.append_nil]) (frzL_cons (frz_good _ _ (Nde.good s.n)) (frzL_cons (frz_nav ws H) rfl)) (by simp [goodL, Nde.good]) (same19_ok hA)
theorem sameMD {P R : List AObj} {s : Stp} (ws : s.wf) (hlen : s.out.length < 2^60) (hm : ∀ m ∈ s.out, MsgOk m) : callD (EV C) n_ref19_SameMsgs [msgs s.out, .slc P.length 0 s.out.length s.out.length] (hp P s R) = some (.bool true) :=
 callD_flat (bs := [msgs s.out, msgs s.out]) (frzL_cons (frz_good _ _ (good_msgs hm)) (frzL_cons (frz_outS ws) rfl)) (by simp [goodL, good_msgs hm]) (sameMsgs_ok hlen hm) rfl
theorem hp_at {P R : List AObj} {s : Stp} {i : Nat} {X : AObj} (h : P[i]? = some X) : (hp P s R)[i]? = some X := by
 unfold hp
 rw [List.getElem?_append_left (by exact (List.getElem?_eq_some_iff.1 h).1)]; exact h
end Go.Pm
