/- The law ClashProves. -/
import Derived.Test.YtclfnechcblmoaaDoorW24
namespace Go.Pm
open Go.Proofs
set_option linter.unusedVariables false
set_option linter.unusedSimpArgs false
theorem formed_leaf {t : Tre} (hf : formedF t = true) (h : t.kind = 0 ∨ t.kind = 3) : t.kids = [] := by
  rw [formedF_eq, Bool.and_eq_true] at hf
  have h1 := hf.1
  rcases h with h0 | h3
  · simp only [formed1, h0, if_true, decide_eq_true_eq] at h1
    exact List.length_eq_zero_iff.1 (by omega)
  · simp only [formed1] at h1
    rw [if_neg (by omega), if_neg (by omega), if_neg (by omega), if_pos h3, decide_eq_true_eq] at h1
    exact List.length_eq_zero_iff.1 (by omega)
theorem empty_no {s : Spn} {low high : Bs} {hl hh : Bool} (h : emptyF s low high hl hh = true) {k : Bs} (h1 : hl = true → ltB low k = true) (h2 : hh = true → ltB k high = true) : inF s k = false := by
  cases hi : inF s k with
  | false => rfl
  | true =>
    exfalso
    simp only [inF, Bool.and_eq_true, Bool.not_eq_true', Bool.or_eq_true] at hi
    have hf : ltB k (fromF s low hl) = false := by
      unfold fromF
      split
      · rename_i hc
        simp only [Bool.and_eq_true] at hc
        rw [lt_next, h1 hc.1]; rfl
      · exact hi.1
    simp only [emptyF, Bool.or_eq_true, Bool.and_eq_true, Bool.not_eq_true'] at h
    rcases h with ⟨ho, hb⟩ | ⟨hh', hb⟩
    · have hk : ltB k s.b = true := by rcases hi.2 with e | e; · rw [e] at ho; cases ho
                                       · exact e
      have := lt_le hk hb
      rw [this] at hf; cases hf
    · have := lt_le (h2 hh') hb
      rw [this] at hf; cases hf
theorem pairs_none {s : Spn} {l : List Tre} (h : ∀ k ∈ l, inF s k.key = false) : pairsF s l = [] := by
  unfold pairsF
  rw [List.filter_eq_nil_iff.2 (fun k hk => by simp [inN, h k hk])]
  rfl
theorem pairs_app (s : Spn) (a b : List Tre) (t : Tre) : pairsF s (a ++ t :: b) = pairsF s a ++ (pairsF s [t] ++ pairsF s b) := by
  unfold pairsF
  rw [show a ++ t :: b = a ++ ([t] ++ b) from rfl, List.filter_append, List.filter_append, List.map_append, List.map_append]
def Srt (l : List Tre) : Prop := l.Pairwise fun a b => ltB a.key b.key = true
theorem srt_of {l : List Tre} (h : risN l = true) : Srt l := by
  have := risK_pair h
  rw [List.pairwise_map] at this
  exact this
theorem srt_two {a b : List Tre} {t : Tre} (h : Srt (a ++ t :: b)) : Srt a ∧ Srt b ∧ (∀ k ∈ a, ltB k.key t.key = true) ∧ ∀ k ∈ b, ltB t.key k.key = true := by
  obtain ⟨h1, h2, h3⟩ := List.pairwise_append.1 h
  obtain ⟨h4, h5⟩ := List.pairwise_cons.1 h2
  exact ⟨h1, h5, fun k hk => h3 k hk t (by simp), h4⟩
theorem same_pairs {w : Int} (hw : wOk w = true) (s : Spn) (p : Tre) : ∀ (q : Tre) (low high : Bs) (hl hh : Bool), Gd w p → Gd w q → dg w p = dg w q → searchF w p q = none →
    openF s p low high hl hh = false → openF s q low high hl hh = false → Srt (nodesF p) → Srt (nodesF q) →
    (∀ k ∈ nodesF p, (hl = true → ltB low k.key = true) ∧ (hh = true → ltB k.key high = true)) →
    (∀ k ∈ nodesF q, (hl = true → ltB low k.key = true) ∧ (hh = true → ltB k.key high = true)) → pairsF s (nodesF p) = pairsF s (nodesF q) := by
  induction p using Tre.ind with
  | h p ih =>
    intro q low high hl hh hp hq hd hs op oq sp sq bp bq
    by_cases hp3 : p.kind = 3
    · rw [nodes_nil (formed_leaf hp.formed (.inr hp3))]
      rw [open_cut _ hp3] at op
      have he : emptyF s low high hl hh = true := by simpa using op
      rw [pairs_none (l := nodesF q) fun k hk => empty_no he (bq k hk).1 (bq k hk).2]
      rfl
    · by_cases hq3 : q.kind = 3
      · rw [nodes_nil (formed_leaf hq.formed (.inr hq3))]
        rw [open_cut _ hq3] at oq
        have he : emptyF s low high hl hh = true := by simpa using oq
        rw [pairs_none (l := nodesF p) fun k hk => empty_no he (bp k hk).1 (bp k hk).2]
        rfl
      · rw [searchF_eq, if_neg (by simp [hp3, hq3])] at hs
        split at hs
        · cases hs
        · rename_i ho
          have ho : ownF w p = ownF w q := Classical.byContradiction ho
          by_cases hp0 : p.kind = 0
          · have hq0 : q.kind = 0 := Classical.byContradiction fun hq0 => by
              obtain ⟨l, r, nd⟩ := hq.node hq0 hq3
              obtain ⟨_, _, np⟩ := own_node nd hp hp3 ho.symm
              rcases np.kind with e | e <;> omega
            rw [nodes_nil (formed_leaf hp.formed (.inl hp0)), nodes_nil (formed_leaf hq.formed (.inl hq0))]
          · rw [if_neg hp0] at hs
            obtain ⟨l, r, np⟩ := hp.node hp0 hp3
            obtain ⟨l', r', nq⟩ := own_node np hq hq3 ho
            have hq0 : q.kind ≠ 0 := by rcases nq.kind with e | e <;> omega
            have e1 := np.gl.len hw; have e2 := nq.gl.len hw; have e3 := np.gr.len hw; have e4 := nq.gr.len hw
            have e5 : ((ofF w (pairF p.key (pv w p))).length : Int) = w := ofF_len hw _
            have e6 : ((ofF w (pairF q.key (pv w q))).length : Int) = w := ofF_len hw _
            rw [np.own, nq.own] at ho
            obtain ⟨i1, i2, i3⟩ := nodeF_inj (by omega) (by omega) ho
            split at hs
            · cases hs
            · rename_i hpp
              have hpp : pairP w p = pairP w q := Classical.byContradiction hpp
              rw [np.pair, nq.pair] at hpp
              obtain ⟨jk, _⟩ := pairF_inj np.key nq.key hpp
              split at hs
              · cases hs
              · rename_i hv
                rw [np.kids, nq.kids, searchL] at hs
                cases hs1 : searchF w l l' with
                | some x => rw [hs1] at hs; cases hs
                | none =>
                  rw [hs1] at hs
                  simp only [searchL] at hs
                  cases hs2 : searchF w r r' with
                  | some x => rw [hs2] at hs; cases hs
                  | none =>
                    rw [open_node _ hp0 hp3 np.kids] at op
                    rw [open_node _ hq0 hq3 nq.kids] at oq
                    split at op
                    · cases op
                    · rename_i dp
                      split at oq
                      · cases oq
                      · rename_i dq
                        rw [Bool.or_eq_false_iff] at op oq
                        rw [← jk] at oq
                        rw [nodes_two np.kids] at sp bp ⊢
                        rw [nodes_two nq.kids] at sq bq ⊢
                        obtain ⟨p1, p2, p3, p4⟩ := srt_two sp
                        obtain ⟨q1, q2, q3, q4⟩ := srt_two sq
                        rw [pairs_app, pairs_app]
                        have hL := ih l (by rw [np.kids]; simp) l' low p.key hl true np.gl nq.gl i1 hs1 op.1 oq.1 p1 q1
                          (fun k hk => ⟨(bp k (by simp [hk])).1, fun _ => p3 k hk⟩) (fun k hk => ⟨(bq k (by simp [hk])).1, fun _ => by rw [jk]; exact q3 k hk⟩)
                        have hR := ih r (by rw [np.kids]; simp) r' p.key high true hh np.gr nq.gr i3 hs2 op.2 oq.2 p2 q2
                          (fun k hk => ⟨fun _ => p4 k hk, (bp k (by simp [hk])).2⟩) (fun k hk => ⟨fun _ => by rw [jk]; exact q4 k hk, (bq k (by simp [hk])).2⟩)
                        have hM : pairsF s [p] = pairsF s [q] := by
                          cases hi : inF s p.key with
                          | false =>
                            rw [pairs_none (l := [p]) (by simp [hi]), pairs_none (l := [q]) (by simp [← jk, hi])]
                          | true =>
                            have k1 : p.kind = 1 := by
                              rcases np.kind with e | e
                              · exact e
                              · exact absurd ⟨e, hi⟩ dp
                            have k2 : q.kind = 1 := by
                              rcases nq.kind with e | e
                              · exact e
                              · exact absurd ⟨e, by rw [← jk]; exact hi⟩ dq
                            have v : p.value = q.value := Classical.byContradiction fun hx => hv ⟨k1, k2, hx⟩
                            simp [pairsF, inN, pairT, k1, k2, hi, ← jk, v]
                        rw [hL, hM, hR]
theorem proves_find {w : Int} {s : Spn} {p q : Tre} (hp : p.ok) (hq : q.ok) (hd : (digF w p).1 = 0) (c1 : (chkF w (digF w p).2 s p).1 = 0) (c2 : (chkF w (digF w p).2 s q).1 = 0)
    (hne : (chkF w (digF w p).2 s p).2 ≠ (chkF w (digF w p).2 s q).2) : (findF w p q).1 = 0 := by
  obtain ⟨hw, gp, dp⟩ := gd_of hp hd
  have hl := gp.len hw
  have hr : ¬ (wOk w = false ∨ ((digF w p).2.length : Int) ≠ w) := by rw [dp]; simp [hw, hl]
  have hdq : (digF w q).1 = 0 := by
    apply Classical.byContradiction; intro h
    unfold chkF at c2; rw [if_neg hr, if_pos h] at c2; exact h c2
  have hdd : (digF w q).2 = (digF w p).2 := by
    apply Classical.byContradiction; intro h
    unfold chkF at c2; rw [if_neg hr, if_neg (by simp [hdq]), if_pos h] at c2; simp at c2
  obtain ⟨_, gq, dq⟩ := gd_of hq hdq
  have o1 := chk_own hp hd s
  have o2 := chk_own hq hdq s
  rw [hdd] at o2
  rw [o1] at c1 hne
  rw [o2] at c2 hne
  have b : ∀ t : Tre, (if risN (nodesF t) = true then behindF s t (nodesF t) else (7, [])).1 = 0 → risN (nodesF t) = true ∧ openF s t [] [] false false = false ∧ (if risN (nodesF t) = true then behindF s t (nodesF t) else (7, [])).2 = pairsF s (nodesF t) := fun t h => by
    cases hr : risN (nodesF t) with
    | false => rw [hr] at h; simp at h
    | true =>
      rw [hr, if_pos rfl] at h
      unfold behindF at h ⊢
      cases ho : openF s t [] [] false false with
      | true => rw [ho] at h; simp at h
      | false => simp
  obtain ⟨r1, op, v1⟩ := b p c1
  obtain ⟨r2, oq, v2⟩ := b q c2
  rw [v1, v2] at hne
  unfold findF
  rw [if_neg (by simp [hd]), if_neg (by simp [hdq]), if_neg (by simp [hdd])]
  cases hs : searchF w p q with
  | some x => rfl
  | none =>
    exact absurd (same_pairs hw s p q [] [] false false gp gq (by rw [← dp, ← dq, hdd]) hs op oq (srt_of r1) (srt_of r2) (fun k _ => ⟨nofun, nofun⟩) (fun k _ => ⟨nofun, nofun⟩)) hne
theorem small2_parts {t : Tre} (h : smallF t = true) : parts t ≤ 200 := by
  simp only [smallF, decide_eq_true_eq] at h
  have := lightF_parts t 200 100 h
  omega
theorem ClashProves_ok (w : Int) (s : Spn) (p q : Tre) (hp : p.ok) (hq : q.ok) : EV C n_law09_ClashProves [.int .i64 w, s.av, p.av, q.av] [] = some (.bool true, [], []) := by
  refine law09_ClashProves_of ?_
  simp -implicitDefEqProofs only [new_sp, ZS, ZT, Nat.reduceAdd]
  rw [callK_ok rfl up_ok]
  simp -implicitDefEqProofs only [ZS, ZT, Nat.reduceAdd]
  rw [callK_ok (by simp) (small_ok p hp)]
  cases hs : smallF p with
  | false => simp -implicitDefEqProofs only [ZS, ZT, Nat.reduceAdd]; exact endB_good rfl
  | true =>
    simp -implicitDefEqProofs only [ZS, ZT, Nat.reduceAdd]
    rw [callK_ok (by simp) (small_ok q hq)]
    cases hs2 : smallF q with
    | false => simp -implicitDefEqProofs only [ZS, ZT, Nat.reduceAdd]; exact endB_good rfl
    | true =>
      have n1 := small2_parts hs
      have n2 := small2_parts hs2
      have n3 := nodes_parts p
      have n4 := nodes_parts q
      simp -implicitDefEqProofs only [ZS, ZT, Nat.reduceAdd]
      rw [callK_ok (by simp) (Digest_ok w p hp)]
      by_cases hd : (digF w p).1 = 0
      · simp -implicitDefEqProofs only [resD, neqE0, hd, ld_sp0, ZS, ZT, Nat.reduceAdd]
        rw [callK_ok (by simp) (Chk_ok w _ s p hp (fun _ => by omega))]
        simp -implicitDefEqProofs only [resC, ld_sp0, ZS, ZT, Nat.reduceAdd]
        rw [callK_ok (by simp) (Chk_ok w _ s q hq (fun _ => by omega))]
        have c0 := chk_len w (digF w p).2 s p
        simp -implicitDefEqProofs only [resC, neqE0, ZS, ZT, Nat.reduceAdd]
        by_cases c1 : (chkF w (digF w p).2 s p).1 = 0
        · by_cases c2 : (chkF w (digF w p).2 s q).1 = 0
          · simp -implicitDefEqProofs only [c1, c2, ZS, ZT, Nat.reduceAdd]
            rw [callK_ok (by simp) (Same_ok _ _ (by omega))]
            by_cases hne : (chkF w (digF w p).2 s p).2 = (chkF w (digF w p).2 s q).2
            · simp -implicitDefEqProofs only [hne, ZS, ZT, Nat.reduceAdd]
              exact endB_good rfl
            · simp -implicitDefEqProofs only [hne, ZS, ZT, Nat.reduceAdd]
              have he := proves_find hp hq hd c1 c2 hne
              obtain ⟨hw, hne, heq, la, lb⟩ := find_right hp hq he
              rw [callK_ok (by simp) (Find_ok w p q hp hq)]
              simp -implicitDefEqProofs only [resFd, ZS, ZT, Nat.reduceAdd]
              rw [callK_ok (by simp) (Of_ok w hw _ (by omega))]
              simp -implicitDefEqProofs only [ZS, ZT, Nat.reduceAdd]
              rw [callK_ok (by simp) (Of_ok w hw _ (by omega))]
              simp -implicitDefEqProofs only [he, eqlE0, eql_nil1, hne, heq, ZS, ZT, Nat.reduceAdd]
              exact endB_good rfl
          · simp -implicitDefEqProofs only [c1, c2, ZS, ZT, Nat.reduceAdd]
            exact endB_good rfl
        · simp -implicitDefEqProofs only [c1, ZS, ZT, Nat.reduceAdd]
          exact endB_good rfl
      · simp -implicitDefEqProofs only [resD, neqE0, hd, ZS, ZT, Nat.reduceAdd]
        exact endB_good rfl
theorem clashProves_law {a b c d : AV} {f f1 f2 f3 : Nat} {l l1 l2 l3 : List AV} (e : a = mkE (agT Tryd.prog 3) l) (h : tyC Tryd.prog reachBytes f 3 l) (e1 : b = mkE (agT Tryd.prog 24) l1) (h1 : tyC Tryd.prog reachBytes f1 24 l1) (e2 : c = mkE (agT Tryd.prog 27) l2) (h2 : tyC Tryd.prog reachBytes f2 27 l2)
    (e3 : d = mkE (agT Tryd.prog 27) l3) (h3 : tyC Tryd.prog reachBytes f3 27 l3) : EV C n_law09_ClashProves [a, b, c, d] [] = some (.bool true, [], []) := by
  obtain ⟨w, rfl⟩ := ty_i64' e h
  obtain ⟨s, rfl⟩ := ty_spn e1 h1
  obtain ⟨p, rfl, hp⟩ := ty_tre' (by decide) e2 h2
  obtain ⟨q, rfl, hq⟩ := ty_tre' (by decide) e3 h3
  exact ClashProves_ok w s p q hp hq
end Go.Pm
