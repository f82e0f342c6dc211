/- The law ClashFinds. -/
import Derived.Test.YtclfnechcblmoaaDoorW17
import Derived.Test.YtclfnechcblmoaaDoorW11
namespace Go.Pm
open Go.Proofs
set_option linter.unusedVariables false
set_option linter.unusedSimpArgs false
theorem rdF_gd {w : Int} {t : Tre} (h : Gd w t) : rdF w t = (dg w t, true) := rdF_some h.dgs
theorem rDigest_gd {w : Int} (hw : wOk w = true) {t : Tre} (h : Gd w t) : EV C n_ref04_Digest [tabF, .int .i64 w, t.av] [] = some (resR (dg w t, true), [], []) := by
  rw [← rdF_gd h]; exact rDigest_ok w hw t h.ok h.formed
theorem dg_le {w : Int} (hw : wOk w = true) {t : Tre} (h : Gd w t) : (dg w t).length ≤ 32 := by
  have := h.len hw
  have hw' : 1 ≤ w ∧ w ≤ 32 := by simpa [wOk] using hw
  omega
theorem ofF_le {w : Int} (hw : wOk w = true) (b : List UInt8) : (ofF w b).length ≤ 32 := by
  have := ofF_len hw b
  have hw' : 1 ≤ w ∧ w ≤ 32 := by simpa [wOk] using hw
  omega
theorem rpair_ok (w : Int) (hw : wOk w = true) (t : Tre) (h : Gd w t) (h0 : t.kind ≠ 0) (h3 : t.kind ≠ 3) : EV C n_ref09_pair [tabF, .int .i64 w, t.av] [] = some (bys (pairP w t), [], []) := by
  obtain ⟨l, r, nd⟩ := h.node h0 h3
  have hk := nd.key; have hv := nd.value; have hpv := nd.pv
  have hw' : 1 ≤ w ∧ w ≤ 32 := by simpa [wOk] using hw
  refine ref09_pair_of ?_
  simp -implicitDefEqProofs only [new_tab, ld_tab0, ZS, ZT, Nat.reduceAdd]
  rw [nd.pair]
  by_cases h1 : t.kind = 1
  · have hpv2 : pv w t = ofF w (0 :: t.value) := by simp [pv, h1]
    rw [hpv2] at hpv ⊢
    rw [if_pos h1, callD_ok (env := EV C) (by simp) (rValue_ok t.value (by omega)), Option.bind_some, callD_ok (env := EV C) (by simp [good_tab]) (rOf_ok w hw (0 :: t.value) (by simp; omega))]
    simp -implicitDefEqProofs only [ZS, ZT, Nat.reduceAdd]
    rw [callK_ok (by simp) (rPair_ok t.key _ (by omega) (by omega))]
    exact endB_good (by simp)
  · have hpv2 : pv w t = t.digest := by simp [pv, h1]
    rw [hpv2] at hpv ⊢
    rw [if_neg h1, callK_ok (by simp) (rPair_ok t.key _ (by omega) (by omega))]
    exact endB_good (by simp)
theorem rown_ok (w : Int) (hw : wOk w = true) (t : Tre) (h : Gd w t) (h3 : t.kind ≠ 3) : EV C n_ref09_own [tabF, .int .i64 w, t.av] [] = some (bys (ownF w t), [], []) := by
  refine ref09_own_of ?_
  simp -implicitDefEqProofs only [new_tab, ld_tab0, ZS, ZT, Nat.reduceAdd]
  by_cases h0 : t.kind = 0
  · rw [if_pos h0, lit0 3 3 rfl]
    refine (endB_good (by simp)).trans ?_
    unfold ownF; rw [if_pos h0]
  · obtain ⟨l, r, nd⟩ := h.node h0 h3
    have x0 : ∀ H, ixA 5 (kidsA t.kids) (.int .i64 0) H = some (.ip l.av.cells) := fun H => ixA_kids (i := 0) (by rw [nd.kids]; rfl)
    have x1 : ∀ H, ixA 5 (kidsA t.kids) (.int .i64 1) H = some (.ip r.av.cells) := fun H => ixA_kids (i := 1) (by rw [nd.kids]; rfl)
    have hl := dg_le hw nd.gl; have hr := dg_le hw nd.gr
    have hk := nd.key; have hpv := nd.pv
    have hw' : 1 ≤ w ∧ w ≤ 32 := by simpa [wOk] using hw
    rw [if_neg h0]
    simp -implicitDefEqProofs only [x0, x1, ZS, ZT, Nat.reduceAdd]
    rw [callD_ok (env := EV C) (by simp [good_tab]) (rDigest_gd hw nd.gl)]
    simp -implicitDefEqProofs only [resR, ZS, ZT, Nat.reduceAdd]
    rw [callD_ok (env := EV C) (by simp [good_tab]) (rDigest_gd hw nd.gr)]
    simp -implicitDefEqProofs only [resR, ZS, ZT, Nat.reduceAdd]
    rw [callD_ok (env := EV C) (by simp [good_tab]) (rpair_ok w hw t h h0 h3), Option.bind_some, nd.pair]
    have ho := ofF_le hw (pairF t.key (pv w t))
    rw [callD_ok (env := EV C) (by simp [good_tab]) (rOf_ok w hw _ (by rw [pairF_len]; omega)), Option.bind_some]
    rw [callD_ok (env := EV C) (by simp) (rNode_ok _ _ _ (by omega) (by omega) (by omega)), Option.bind_some, nd.own]
    exact endB_good (by simp)
theorem rSearch_ok (w : Int) (hw : wOk w = true) (p : Tre) : ∀ q, Gd w p → Gd w q → EV C n_ref09_Search [tabF, .int .i64 w, p.av, q.av] [] = some (resS (searchF w p q), [], []) := by
  induction p using Tre.ind with
  | h p ih =>
    intro q hp hq
    refine ref09_Search_of ?_
    simp -implicitDefEqProofs only [new_tab, ld_tab0, ZS, ZT, Nat.reduceAdd]
    rw [searchF_eq]
    split
    · rename_i h; rw [if_pos (.inl h)]; exact endN _ _
    · rename_i hp3
      split
      · rename_i h; rw [if_pos (.inr h)]; exact endN _ _
      · rename_i hq3
        rw [if_neg (by omega)]
        rw [callK_ok (by simp [good_tab]) (rown_ok w hw p hp hp3)]
        simp -implicitDefEqProofs only [ld_tab0, ZS, ZT, Nat.reduceAdd]
        rw [callK_ok (by simp [good_tab]) (rown_ok w hw q hq hq3)]
        simp -implicitDefEqProofs only [ZS, ZT, Nat.reduceAdd]
        by_cases ho : ownF w p = ownF w q
        · simp -implicitDefEqProofs only [ho, ne_eq, not_true_eq_false, ld_tab0, ZS, ZT, Nat.reduceAdd]
          split
          · exact endN _ _
          · rename_i hp0
            obtain ⟨l, r, np⟩ := hp.node hp0 hp3
            obtain ⟨l', r', nq⟩ := own_node np hq hq3 ho
            have hq0 : q.kind ≠ 0 := by rcases nq.kind with e | e <;> omega
            rw [callK_ok (by simp [good_tab]) (rpair_ok w hw p hp hp0 hp3)]
            simp -implicitDefEqProofs only [ld_tab0, ZS, ZT, Nat.reduceAdd]
            rw [callK_ok (by simp [good_tab]) (rpair_ok w hw q hq hq0 hq3)]
            simp -implicitDefEqProofs only [ZS, ZT, Nat.reduceAdd]
            by_cases hpp : pairP w p = pairP w q
            · have hv1 := np.value
              have hv2 := nq.value
              have x0 : ∀ H, ixA 5 (kidsA p.kids) (.int .i64 0) H = some (.ip l.av.cells) := fun H => ixA_kids (i := 0) (by rw [np.kids]; rfl)
              have x1 : ∀ H, ixA 5 (kidsA p.kids) (.int .i64 1) H = some (.ip r.av.cells) := fun H => ixA_kids (i := 1) (by rw [np.kids]; rfl)
              have y0 : ∀ H, ixA 5 (kidsA q.kids) (.int .i64 0) H = some (.ip l'.av.cells) := fun H => ixA_kids (i := 0) (by rw [nq.kids]; rfl)
              have y1 : ∀ H, ixA 5 (kidsA q.kids) (.int .i64 1) H = some (.ip r'.av.cells) := fun H => ixA_kids (i := 1) (by rw [nq.kids]; rfl)
              have il := ih l (by rw [np.kids]; simp) l' np.gl nq.gl
              have ir := ih r (by rw [np.kids]; simp) r' np.gr nq.gr
              have e3 : searchL w p.kids q.kids = (match searchF w l l' with | some r => some r | none => searchF w r r') := by
                rw [np.kids, nq.kids, searchL]
                cases searchF w l l' with
                | some x => rfl
                | none =>
                  simp only [searchL]
                  cases searchF w r r' <;> rfl
              have loop : ∀ E, ((callD (EV C) n_ref09_Search [tabF, .int .i64 w, l.av, l'.av] [.row 9 [tabF], .row 5 [p.av], .row 5 [q.av]]).bind fun a59 =>
                  (extA a59 0).bind fun a60 =>
                  (extA a59 1).bind fun a61 =>
                  (extA a59 2).bind fun a62 =>
                  condK a62
                    (endB false false 0 (.tup [a60, a61, (.bool true)]) [.row 9 [tabF], .row 5 [p.av], .row 5 [q.av]] E)
                    ((callD (EV C) n_ref09_Search [tabF, .int .i64 w, r.av, r'.av] [.row 9 [tabF], .row 5 [p.av], .row 5 [q.av]]).bind fun a72 =>
                    (extA a72 0).bind fun a73 =>
                    (extA a72 1).bind fun a74 =>
                    (extA a72 2).bind fun a75 =>
                    endB false false 0 (.tup [a73, a74, a75]) [.row 9 [tabF], .row 5 [p.av], .row 5 [q.av]] E)) = some (resS (searchL w p.kids q.kids), [], []) := fun E => by
                rw [callD_ok (env := EV C) (by simp [good_tab]) il, e3]
                cases searchF w l l' with
                | some x =>
                  obtain ⟨a, b⟩ := x
                  simp -implicitDefEqProofs only [resS, ZS, Nat.reduceAdd]
                  exact endB_good (by simp)
                | none =>
                  simp -implicitDefEqProofs only [resS, ZS, Nat.reduceAdd]
                  rw [callD_ok (env := EV C) (by simp [good_tab]) ir]
                  cases searchF w r r' with
                  | some x =>
                    obtain ⟨a, b⟩ := x
                    simp -implicitDefEqProofs only [resS, ZS, Nat.reduceAdd]
                    exact endB_good (by simp)
                  | none =>
                    simp -implicitDefEqProofs only [resS, ZS, Nat.reduceAdd]
                    exact endB_good (by simp [AV.good, goodL])
              simp -implicitDefEqProofs only [hpp, not_true_eq_false, x0, x1, y0, y1, ld_tab0, ZS, ZT, Nat.reduceAdd]
              by_cases hk1 : p.kind = 1
              · by_cases hk2 : q.kind = 1
                · by_cases hvv : p.value = q.value
                  · simp -implicitDefEqProofs only [hk1, hk2, hvv, true_and, and_self, not_true_eq_false, ZS, ZT, Nat.reduceAdd]
                    exact loop _
                  · simp -implicitDefEqProofs only [hk1, hk2, hvv, true_and, and_self, not_false_eq_true, ZS, ZT, Nat.reduceAdd]
                    rw [callD_ok (env := EV C) (by simp) (rValue_ok p.value (by omega)), Option.bind_some, callD_ok (env := EV C) (by simp) (rValue_ok q.value (by omega)), Option.bind_some]
                    exact endB_good (by simp)
                · simp -implicitDefEqProofs only [hk1, hk2, false_and, and_false, ZS, ZT, Nat.reduceAdd]
                  exact loop _
              · simp -implicitDefEqProofs only [hk1, false_and, ZS, ZT, Nat.reduceAdd]
                exact loop _
            · simp -implicitDefEqProofs only [hpp, not_false_eq_true, ZS, ZT, Nat.reduceAdd]
              exact endB_good (by simp)
        · simp -implicitDefEqProofs only [ho, ne_eq, not_false_eq_true, ZS, ZT, Nat.reduceAdd]
          exact endB_good (by simp)
/-! ### Code, told -/
theorem code_loop (n : Int) (hn : n ≤ 13) : ∀ (m : Nat) (c : Int) (E : List Nat), c + m = n → 1 ≤ c → law00_Code_J4 0 (errA n) (.int .i64 c) [] E = some (.int .i64 n, [], [])
  | 0, c, E, h, hc => by
    refine law00_Code_J4_of ?_
    have : c = n := by omega
    subst this
    simp -implicitDefEqProofs only [eqlE _ _ _ (show c ≠ 0 by omega), hn, ZS, Nat.reduceAdd]
    exact endB_good rfl
  | m + 1, c, E, h, hc => by
    refine law00_Code_J4_of ?_
    have h1 : ¬ n = c := by omega
    have h2 : c ≤ 13 := by omega
    have e3 : IntKind.i64.wrap (c + 1) = c + 1 := by rw [wrap64] <;> omega
    simp -implicitDefEqProofs only [eqlE _ _ _ (show c ≠ 0 by omega), h1, h2, add_int, e3, ZS, Nat.reduceAdd]
    exact code_loop n hn m (c + 1) E (by omega) (by omega)
theorem Code_ok (n : Int) (h0 : 0 ≤ n) (h1 : n ≤ 13) : EV C n_law00_Code [errA n] [] = some (.int .i64 n, [], []) := by
  refine law00_Code_of ?_
  simp -implicitDefEqProofs only [eqlE0, ZS, Nat.reduceAdd]
  split
  · rename_i h; subst h; exact endB_good rfl
  · exact code_loop n h1 (n - 1).toNat 1 [] (by omega) (by omega)
theorem check_range (t : Tre) : 0 ≤ checkF t ∧ checkF t ≤ 5 := by unfold checkF; split <;> (try split) <;> omega
theorem dig_range (w : Int) (t : Tre) : 0 ≤ (digF w t).1 ∧ (digF w t).1 ≤ 5 := by
  have := check_range t
  unfold digF
  split
  · simp
  · split
    · split <;> simp
    · exact this
theorem told_ok9 (w : Int) (t : Tre) (ht : t.ok) : EV C n_law09_told [tabF, .int .i64 w, t.av] [] = some (.int .i64 (digF w t).1, [], []) := by
  refine law09_told_of ?_
  simp -implicitDefEqProofs only [new_tab, ld_tab0, ZS, ZT, Nat.reduceAdd]
  split
  · have hw : wOk w = false := by simp only [wOk, decide_eq_false_iff_not]; omega
    simp only [digF, hw, if_true]
    exact endB_good rfl
  · split
    · have hw : wOk w = false := by simp only [wOk, decide_eq_false_iff_not]; omega
      simp only [digF, hw, if_true]
      exact endB_good rfl
    · have hw : wOk w = true := by simp only [wOk, decide_eq_true_eq]; omega
      rw [callK_ok (by simp) (rCheck_ok t ht)]
      by_cases hc : checkF t = 0
      · simp -implicitDefEqProofs only [hc, ld_tab0, ZS, ZT, Nat.reduceAdd]
        rw [callK_ok (by simp [good_tab]) (rDigest_ok w hw t ht (check_formed hc))]
        simp -implicitDefEqProofs only [digF, hw, hc, Bool.true_eq_false, resR, ZS, ZT, Nat.reduceAdd]
        cases hT : toldF w t with
        | some d => rw [rdF_some hT]; simp -implicitDefEqProofs only [ZS, ZT, Nat.reduceAdd]; exact endB_good rfl
        | none => rw [rdF_none hT]; simp -implicitDefEqProofs only [ZS, ZT, Nat.reduceAdd]; exact endB_good rfl
      · simp -implicitDefEqProofs only [hc, digF, hw, Bool.true_eq_false, ZS, ZT, Nat.reduceAdd]
        exact endB_good rfl
/-! ### ClashFinds -/
theorem find_none1 {w : Int} {p q : Tre} (h : (digF w p).1 ≠ 0) : findF w p q = ((digF w p).1, [], []) := by unfold findF; rw [if_pos h]
theorem find_none2 {w : Int} {p q : Tre} (h1 : (digF w p).1 = 0) (h : (digF w q).1 ≠ 0) : findF w p q = ((digF w q).1, [], []) := by unfold findF; rw [if_neg (by simp [h1]), if_pos h]
theorem ClashFinds_ok (w : Int) (p q : Tre) (hp : p.ok) (hq : q.ok) : EV C n_law09_ClashFinds [.int .i64 w, p.av, q.av] [] = some (.bool true, [], []) := by
  refine law09_ClashFinds_of ?_
  simp -implicitDefEqProofs only [ZS, ZT, Nat.reduceAdd]
  rw [callK_ok rfl up_ok]
  simp -implicitDefEqProofs only [ZS, ZT, Nat.reduceAdd]
  rw [callK_ok (by simp) (small_ok p hp)]
  cases smallF p with
  | false => simp -implicitDefEqProofs only [ZS, ZT, Nat.reduceAdd]; exact endB_good rfl
  | true =>
    simp -implicitDefEqProofs only [ZS, ZT, Nat.reduceAdd]
    rw [callK_ok (by simp) (small_ok q hq)]
    cases smallF q with
    | false => simp -implicitDefEqProofs only [ZS, ZT, Nat.reduceAdd]; exact endB_good rfl
    | true =>
      have ez : ∀ (H : List AObj) (K : AV → List AObj → List Nat → Option R3), newK (.agg [.nils, .int .u32 0, .int .u32 0, .int .u32 0, .int .u32 0, .int .u32 0, .int .u32 0, .int .u32 0, .int .u32 0]) H K = K (.ptr H.length 1 0 0) (H ++ [.row 9 [zTab]]) [] := fun H K => new_agg (by simp) rfl H K
      have es : ∀ (o1 o2 : AObj) (K : List AObj → List Nat → Option R3), stoK 9 (.ptr 2 1 0 0) tabF [o1, o2, .row 9 [zTab]] K = K [o1, o2, .row 9 [tabF]] [] := fun o1 o2 K => by
        rw [show tabF = .agg (tabL (.lst (kCst.map u32)) hCst) from rfl, zTab, sto_agg (z := 9) (l := 2) (cs := [.nils, .int .u32 0, .int .u32 0, .int .u32 0, .int .u32 0, .int .u32 0, .int .u32 0, .int .u32 0, .int .u32 0]) rfl rfl rfl rfl, escs_good rfl]
        rfl
      have ld : ∀ (o1 o2 : AObj) (T : List AObj), loadA true 9 (.ptr 2 1 0 0) (o1 :: o2 :: .row 9 [tabF] :: T) = some tabF := fun o1 o2 T => ld_agg (cs := tabL (.lst (kCst.map u32)) hCst) rfl rfl
      simp -implicitDefEqProofs only [ZS, ZT, Nat.reduceAdd]
      rw [callK_ok (by simp) (Find_ok w p q hp hq)]
      simp -implicitDefEqProofs only [resFd, ZS, ZT, Nat.reduceAdd]
      rw [callK_ok rfl Made_ok]
      simp -implicitDefEqProofs only [ez, es, ld, ZS, ZT, Nat.reduceAdd]
      rw [callK_ok (by simp [good_tab]) (told_ok9 w p hp)]
      have rp := dig_range w p
      have rq := dig_range w q
      by_cases h1 : (digF w p).1 = 0
      · simp -implicitDefEqProofs only [h1, ld, ZS, ZT, Nat.reduceAdd]
        rw [callK_ok (by simp [good_tab]) (told_ok9 w q hq)]
        by_cases h2 : (digF w q).1 = 0
        · obtain ⟨hw, gp, dp⟩ := gd_of hp h1
          obtain ⟨_, gq, dq⟩ := gd_of hq h2
          simp -implicitDefEqProofs only [h2, ld, ZS, ZT, Nat.reduceAdd]
          rw [callK_ok (by simp [good_tab]) (rDigest_gd hw gp)]
          simp -implicitDefEqProofs only [resR, ld, ZS, ZT, Nat.reduceAdd]
          rw [callK_ok (by simp [good_tab]) (rDigest_gd hw gq)]
          simp -implicitDefEqProofs only [resR, ld, ZS, ZT, Nat.reduceAdd]
          have hf : findF w p q = if (digF w p).2 ≠ (digF w q).2 then ((6 : Int), ([] : List UInt8), ([] : List UInt8)) else match searchF w p q with | none => (9, [], []) | some (a, b) => (0, a, b) := by
            unfold findF; rw [if_neg (by simp [h1]), if_neg (by simp [h2])]
            rfl
          rw [dp, dq] at hf
          by_cases hd : dg w p = dg w q
          · rw [if_neg (by simp [hd])] at hf
            simp -implicitDefEqProofs only [hd, ld, ZS, ZT, Nat.reduceAdd]
            rw [callK_ok (by simp [good_tab]) (rSearch_ok w hw p q gp gq)]
            cases hs : searchF w p q with
            | none =>
              rw [hs] at hf
              simp -implicitDefEqProofs only [hf, resS, eqlE _ _ _ (show (9 : Int) ≠ 0 by decide), List.length_nil, Int.natCast_zero, ZS, ZT, Nat.reduceAdd]
              exact endB_good rfl
            | some x =>
              obtain ⟨a, b⟩ := x
              rw [hs] at hf
              simp -implicitDefEqProofs only [hf, resS, eqlE0, ZS, ZT, Nat.reduceAdd]
              exact endB_good rfl
          · rw [if_pos hd] at hf
            simp -implicitDefEqProofs only [hd, hf, eqlE _ _ _ (show (6 : Int) ≠ 0 by decide), List.length_nil, Int.natCast_zero, ZS, ZT, Nat.reduceAdd]
            exact endB_good rfl
        · simp -implicitDefEqProofs only [find_none2 h1 h2, h2, ZS, ZT, Nat.reduceAdd]
          rw [callK_ok (by simp) (Code_ok _ rq.1 (by omega))]
          simp -implicitDefEqProofs only [List.length_nil, Int.natCast_zero, ZS, ZT, Nat.reduceAdd]
          exact endB_good rfl
      · simp -implicitDefEqProofs only [find_none1 h1, h1, ZS, ZT, Nat.reduceAdd]
        rw [callK_ok (by simp) (Code_ok _ rp.1 (by omega))]
        simp -implicitDefEqProofs only [List.length_nil, Int.natCast_zero, ZS, ZT, Nat.reduceAdd]
        exact endB_good rfl
theorem clashFinds_law {a b c : AV} {f f1 f2 : Nat} {l l1 l2 : List AV} (e : a = mkE (agT Tryd.prog 3) l) (h : tyC Tryd.prog reachBytes f 3 l) (e1 : b = mkE (agT Tryd.prog 27) l1) (h1 : tyC Tryd.prog reachBytes f1 27 l1) (e2 : c = mkE (agT Tryd.prog 27) l2) (h2 : tyC Tryd.prog reachBytes f2 27 l2) :
    EV C n_law09_ClashFinds [a, b, c] [] = some (.bool true, [], []) := by
  obtain ⟨w, rfl⟩ := ty_i64' e h
  obtain ⟨p, rfl, hp⟩ := ty_tre' (by decide) e1 h1
  obtain ⟨q, rfl, hq⟩ := ty_tre' (by decide) e2 h2
  exact ClashFinds_ok w p q hp hq
end Go.Pm
