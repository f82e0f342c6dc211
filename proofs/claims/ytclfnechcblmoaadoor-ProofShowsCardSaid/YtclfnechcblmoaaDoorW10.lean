/- The laws ClashRight, ClashSame. -/
import Derived.Test.YtclfnechcblmoaaDoorW9
namespace Go.Pm
open Go.Proofs
set_option linter.unusedVariables false
set_option linter.unusedSimpArgs false
/-! ### what is found -/
theorem own_dg {w : Int} {t : Tre} (h : Gd w t) (h3 : t.kind ≠ 3) : dg w t = ofF w (ownF w t) := by
  by_cases h0 : t.kind = 0
  · have : ownF w t = [3] := by unfold ownF; rw [if_pos h0]
    rw [this, dg, told_none w t h0]; rfl
  · obtain ⟨l, r, nd⟩ := h.node h0 h3
    rw [nd.dg, nd.own]
theorem app_inj {a b c d : List UInt8} (h : a.length = c.length) (e : a ++ b = c ++ d) : a = c ∧ b = d := List.append_inj e h
theorem nodeF_inj {l p r l' p' r' : List UInt8} (hl : l.length = l'.length) (hp : p.length = p'.length) (h : nodeF l p r = nodeF l' p' r') : l = l' ∧ p = p' ∧ r = r' := by
  simp only [nodeF, List.cons.injEq, true_and] at h
  obtain ⟨h1, h2⟩ := app_inj hl h
  obtain ⟨h3, h4⟩ := app_inj hp h2
  exact ⟨h1, h3, h4⟩
theorem pairF_inj {a v a' v' : List UInt8} (ha : a.length ≤ 80) (ha' : a'.length ≤ 80) (h : pairF a v = pairF a' v') : a = a' ∧ v = v' := by
  simp only [pairF, List.cons.injEq, true_and] at h
  obtain ⟨h1, h2⟩ := h
  have : a.length = a'.length := by
    have := congrArg UInt8.toNat h1
    simp at this; omega
  exact app_inj this h2
theorem search_right {w : Int} (hw : wOk w = true) (p : Tre) : ∀ (q : Tre) (a b : List UInt8), Gd w p → Gd w q → dg w p = dg w q → searchF w p q = some (a, b) →
    a ≠ b ∧ ofF w a = ofF w b ∧ a.length ≤ 2^20 ∧ b.length ≤ 2^20 := by
  have hw' : 1 ≤ w ∧ w ≤ 32 := by simpa [wOk] using hw
  have ol : ∀ t, Gd w t → t.kind ≠ 3 → (ownF w t).length ≤ 2^20 := fun t h h3 => by
    by_cases h0 : t.kind = 0
    · unfold ownF; rw [if_pos h0]; simp
    · obtain ⟨l, r, nd⟩ := h.node h0 h3
      have h1 := nd.gl.len hw; have h2 := nd.gr.len hw
      have h3 : ((ofF w (pairF t.key (pv w t))).length : Int) = w := ofF_len hw _
      rw [nd.own, nodeF_len]; omega
  induction p using Tre.ind with
  | h p ih =>
    intro q a b hp hq hd h
    rw [searchF_eq] at h
    split at h
    · cases h
    · rename_i h3
      have hp3 : p.kind ≠ 3 := fun e => h3 (.inl e)
      have hq3 : q.kind ≠ 3 := fun e => h3 (.inr e)
      split at h
      · rename_i ho
        simp only [Option.some.injEq, Prod.mk.injEq] at h
        obtain ⟨rfl, rfl⟩ := h
        exact ⟨ho, by rw [← own_dg hp hp3, ← own_dg hq hq3, hd], ol p hp hp3, ol q hq hq3⟩
      · rename_i ho
        have ho : ownF w p = ownF w q := Classical.byContradiction ho
        split at h
        · cases h
        · rename_i h0
          obtain ⟨l, r, np⟩ := hp.node h0 hp3
          obtain ⟨l', r', nq⟩ := own_node np hq hq3 ho
          have e1 := np.gl.len hw; have e2 := nq.gl.len hw; have e3 := np.gr.len hw; have e4 := nq.gr.len hw
          have e5 : ((ofF w (pairF p.key (pv w p))).length : Int) = w := ofF_len hw _
          have e6 : ((ofF w (pairF q.key (pv w q))).length : Int) = w := ofF_len hw _
          have ho2 := ho
          rw [np.own, nq.own] at ho2
          obtain ⟨i1, i2, i3⟩ := nodeF_inj (by omega) (by omega) ho2
          have k1 := np.key; have k2 := nq.key; have v1 := np.value; have v2 := nq.value
          have pv1 := np.pv; have pv2 := nq.pv
          split at h
          · rename_i hpp
            simp only [Option.some.injEq, Prod.mk.injEq] at h
            obtain ⟨rfl, rfl⟩ := h
            refine ⟨hpp, by rw [np.pair, nq.pair, i2], ?_, ?_⟩
            · rw [np.pair, pairF_len]; omega
            · rw [nq.pair, pairF_len]; omega
          · rename_i hpp
            have hpp : pairP w p = pairP w q := Classical.byContradiction hpp
            rw [np.pair, nq.pair] at hpp
            obtain ⟨_, j2⟩ := pairF_inj k1 k2 hpp
            split at h
            · rename_i hv
              simp only [Option.some.injEq, Prod.mk.injEq] at h
              obtain ⟨rfl, rfl⟩ := h
              simp only [pv, hv.1, hv.2.1, if_true] at j2
              refine ⟨fun e => hv.2.2 (by simpa using e), j2, ?_, ?_⟩
              · simp; omega
              · simp; omega
            · rw [np.kids, nq.kids, searchL] at h
              cases hs : searchF w l l' with
              | some x =>
                rw [hs] at h
                simp only [Option.some.injEq] at h
                subst h
                exact ih l (by rw [np.kids]; simp) l' _ _ np.gl nq.gl i1 hs
              | none =>
                rw [hs] at h
                simp only [searchL] at h
                cases hs2 : searchF w r r' with
                | some x =>
                  rw [hs2] at h
                  simp only [Option.some.injEq] at h
                  subst h
                  exact ih r (by rw [np.kids]; simp) r' _ _ np.gr nq.gr i3 hs2
                | none => rw [hs2] at h; cases h
theorem find_right {w : Int} {p q : Tre} (hp : p.ok) (hq : q.ok) (h : (findF w p q).1 = 0) : wOk w = true ∧ (findF w p q).2.1 ≠ (findF w p q).2.2 ∧ ofF w (findF w p q).2.1 = ofF w (findF w p q).2.2 ∧
    (findF w p q).2.1.length ≤ 2^20 ∧ (findF w p q).2.2.length ≤ 2^20 := by
  unfold findF at h ⊢
  by_cases e1 : (digF w p).1 = 0
  · by_cases e2 : (digF w q).1 = 0
    · simp only [e1, e2, ne_eq, not_true_eq_false, if_false] at h ⊢
      obtain ⟨hw, gp, dp⟩ := gd_of hp e1
      obtain ⟨_, gq, dq⟩ := gd_of hq e2
      by_cases hd : (digF w p).2 = (digF w q).2
      · simp only [hd, not_true_eq_false, if_false] at h ⊢
        cases hs : searchF w p q with
        | none => simp [hs] at h
        | some x =>
          obtain ⟨a, b⟩ := x
          exact ⟨hw, search_right hw p q a b gp gq (by rw [← dp, ← dq, hd]) hs⟩
      · simp [hd] at h
    · simp [e1, e2] at h
  · simp [e1] at h
/-! ### up -/
def Tre.nil : Tre := .mk 0 [] [] [] []
def Tre.cut (d : List UInt8) : Tre := .mk 3 [] [] d []
theorem nil_ok : Tre.nil.ok := by simp [Tre.nil, Tre.ok, okL]
theorem tcut_ok {d : List UInt8} (h : d.length ≤ 2^50) : (Tre.cut d).ok := by simp [Tre.cut, Tre.ok, okL, h]
theorem deep_nil (n : Int) : deepF Tre.nil n = false := by simp [Tre.nil, deepF, Tre.isNode, deepL, Tre.kind, Tre.kids]
theorem deep_cut (d : List UInt8) (n : Int) : deepF (.cut d) n = false := by simp [Tre.cut, deepF, Tre.isNode, deepL, Tre.kind, Tre.kids]
theorem formed_nil : formedF Tre.nil = true := by simp [Tre.nil, formedF, formed1, formedL, Tre.kind, Tre.kids, Tre.key, Tre.value, Tre.digest]
theorem formed_cut (d : List UInt8) : formedF (.cut d) = true := by simp [Tre.cut, formedF, formed1, formedL, Tre.kind, Tre.kids, Tre.key, Tre.value, Tre.digest]
theorem gd_nil (w : Int) : Gd w Tre.nil := ⟨nil_ok, formed_nil, deep_nil 64, by rw [told_none w Tre.nil rfl]; rfl⟩
theorem gd_cut {w : Int} {d : List UInt8} (hw : wOk w = true) (h : (d.length : Int) = w) : Gd w (.cut d) ∧ dg w (.cut d) = d := by
  have hw' : 1 ≤ w ∧ w ≤ 32 := by simpa [wOk] using hw
  have e : toldF w (.cut d) = some d := by rw [told_cut w (.cut d) rfl]; exact if_pos h
  exact ⟨⟨tcut_ok (by omega), formed_cut d, deep_cut d 64, by rw [e]; rfl⟩, by rw [dg, e]; rfl⟩
theorem dg_nil (w : Int) : dg w Tre.nil = ofF w [3] := by rw [dg, told_none w Tre.nil rfl]; rfl
theorem search_self {w : Int} (p : Tre) : Gd w p → searchF w p p = none := by
  induction p using Tre.ind with
  | h p ih =>
    intro hp
    rw [searchF_eq]
    split
    · rfl
    · rename_i h3
      simp only [ne_eq, not_true_eq_false, if_false, and_false]
      split
      · rfl
      · rename_i h0
        obtain ⟨l, r, np⟩ := hp.node h0 (fun e => h3 (.inl e))
        rw [np.kids, searchL, ih l (by rw [np.kids]; simp) np.gl]
        simp only [searchL]
        rw [ih r (by rw [np.kids]; simp) np.gr]
theorem find_self {w : Int} {p : Tre} (hw : wOk w = true) (h : Gd w p) : findF w p p = (9, [], []) := by
  simp [findF, h.dig hw, search_self p h]
theorem find_cut {w : Int} {p : Tre} (hw : wOk w = true) (h : Gd w p) : findF w p (.cut (dg w p)) = (9, [], []) := by
  obtain ⟨g, e⟩ := gd_cut hw (h.len hw)
  have : searchF w p (.cut (dg w p)) = none := by rw [searchF_eq, if_pos (.inr rfl)]
  simp [findF, h.dig hw, g.dig hw, e, this]
theorem sum3 : (sumF [3]).take 1 = [8] := by kernel_rfl
theorem find_up1 : findF 1 .nil .nil = (9, [], []) := find_self (by decide) (gd_nil 1)
theorem find_up2 : findF 1 .nil (.cut [9]) = (6, [], []) := by
  obtain ⟨g, e⟩ := gd_cut (w := 1) (d := [9]) (by decide) rfl
  have h1 : dg 1 .nil = [8] := by rw [dg_nil]; exact sum3
  simp [findF, (gd_nil 1).dig (by decide), g.dig (by decide), e, h1]
theorem fill_nil {β : Type} (K : List AV → Option β) : (fillB (AV.cells (.agg [(.int .i64 0), .nils, .nils, .nils, .nils])) []).bind K = K [.int .i64 0, .nils, .nils, .nils, .nils] := Eq.trans rfl rfl
theorem fill_cut {β : Type} (d : List UInt8) (K : List AV → Option β) : (fillB (AV.cells (.agg [(.int .i64 0), .nils, .nils, .nils, .nils])) [(0, 1, (.int .i64 3)), (3, 1, bys d)]).bind K = K [.int .i64 3, .nils, .nils, bys d, .nils] := by
  simp [fillB, AV.cells, AV.isBad, bys]
theorem frz_nil0 (H : List AObj) : frz H (.agg [.int .i64 0, .nils, .nils, .nils, .nils]) = some Tre.nil.av := Eq.trans rfl rfl
theorem frz_cut0 (d : List UInt8) (H : List AObj) : frz H (.agg [.int .i64 3, .nils, .nils, bys d, .nils]) = some (Tre.cut d).av := by
  refine frz_agg (us := [.int .i64 3, .lst [], .lst [], bys d, .lst []]) (frzL_cons rfl (frzL_cons rfl (frzL_cons rfl (frzL_cons (frz_good _ _ (good_bys d)) (frzL_cons rfl rfl))))) |>.trans ?_
  rw [av_eq]; rfl
theorem kills_nil0 : kills (.agg [.int .i64 0, .nils, .nils, .nils, .nils]) = [] := rfl
theorem kills_cut0 (d : List UInt8) : kills (.agg [.int .i64 3, .nils, .nils, bys d, .nils]) = [] := by
  simp [kills, killsL, kills_good _ (good_bys d)]
theorem up_ok : EV C n_law09_up [] [] = some (.bool true, [], []) := by
  refine law09_up_of ?_
  simp only [fill_nil]
  rw [callK_nil (bs := [.int .i64 1, Tre.nil.av, Tre.nil.av]) (by simp [killsL, kills]) (frzL_cons rfl (frzL_cons (frz_nil0 _) (frzL_cons (frz_nil0 _) rfl))) (by simp) (Find_ok 1 .nil .nil nil_ok nil_ok)]
  simp only [resFd, extA_0, extA_1, extA_2, Option.bind_some]
  rw [lit0 9 9 rfl]
  rw [fill_cut [9], callK_nil (bs := [.int .i64 1, Tre.nil.av, (Tre.cut [9]).av]) (by simp [killsL, kills, bys]) (frzL_cons rfl (frzL_cons (frz_nil0 _) (frzL_cons (frz_cut0 [9] _) rfl))) (by simp) (Find_ok 1 .nil (.cut [9]) nil_ok (tcut_ok (by simp)))]
  simp only [resFd, extA_0, extA_1, extA_2, Option.bind_some, find_up1, find_up2]
  rw [eqlE _ _ _ (by decide)]
  simp only [decide_true, Option.bind_some, splitK_t]
  rw [eqlE _ _ _ (by decide)]
  simp only [decide_true, Option.bind_some]
  exact endB_good rfl
theorem ClashRight_ok (w : Int) (p q : Tre) (hp : p.ok) (hq : q.ok) : EV C n_law09_ClashRight [.int .i64 w, p.av, q.av] [] = some (.bool true, [], []) := by
  refine law09_ClashRight_of ?_
  simp only [List.length_nil, new_tr, List.nil_append, List.length_singleton, List.cons_append]
  rw [callK_ok rfl up_ok]
  simp only [ld_tr0, ld_tr1, Option.bind_some]
  rw [callK_ok (by simp) (small_ok p hp)]
  cases smallF p with
  | false => simp only [not_bool, Bool.not_false, Option.bind_some, splitK_t]; exact endB_good rfl
  | true =>
    simp only [not_bool, Bool.not_true, Option.bind_some, splitK_f, ld_tr1]
    rw [callK_ok (by simp) (small_ok q hq)]
    cases smallF q with
    | false => simp only [not_bool, Bool.not_false, Option.bind_some, condK_t]; exact endB_good rfl
    | true =>
      simp only [not_bool, Bool.not_true, Option.bind_some, condK_f, ld_tr0, ld_tr1]
      rw [callK_ok (by simp) (Find_ok w p q hp hq)]
      simp only [resFd, extA_0, extA_1, extA_2, Option.bind_some, neqE0]
      by_cases he : (findF w p q).1 = 0
      · obtain ⟨hw, hne, heq, la, lb⟩ := find_right hp hq he
        simp only [he, decide_true, Bool.not_true, condK_f]
        rw [callK_ok (by simp) (Of_ok w hw _ (by omega))]
        simp only [extA_0, extA_1, Option.bind_some]
        rw [callK_ok (by simp) (Of_ok w hw _ (by omega))]
        simp only [extA_0, extA_1, Option.bind_some, splitK_t, eql_nil1, cvL_bys, neq_str, eql_str, bl_mk, hne, heq, decide_false, decide_true, Bool.not_false]
        exact endB_good rfl
      · simp only [he, decide_false, Bool.not_false, condK_t]
        exact endB_good rfl
/-! ### ClashSame -/
theorem rem2 (d : TypeDesc) (c : TypeId → Bool) (b : Bool) (x : Int) : binA .rem d c b (.int .i64 x) (.int .i64 2) = some (.int .i64 (x.tmod 2)) := by simp [binA]
theorem zero_tre : (AV.agg [(.int .i64 0), .nils, .nils, .nils, .nils]).cells = [(.int .i64 0), .nils, .nils, .nils, .nils] := rfl
theorem new_z {β : Type} (H : List AObj) (K : AV → List AObj → List Nat → Option β) : newK (.agg [(.int .i64 0), .nils, .nils, .nils, .nils]) H K = K (.ptr H.length 1 0 0) (H ++ [.row 5 [.agg [(.int .i64 0), .nils, .nils, .nils, .nils]]]) [] := Eq.trans rfl rfl
theorem litD_kids (d : List UInt8) (r : Tre) (H : List AObj) : litD 5 2 (.agg [(.int .i64 0), .nils, .nils, .nils, .nils]) [(0, .agg [.int .i64 3, .nils, .nils, bys d, .nils]), (1, r.av)] H = some (kidsA [Tre.cut d, r]) := by
  have e1 : (killsL [(.agg [.int .i64 3, .nils, .nils, bys d, .nils]), r.av]).isEmpty = true := by
    simp [killsL, kills_cut0, kills_good _ (good_tr r)]
  have e2 : frzL H [(.agg [.int .i64 3, .nils, .nils, bys d, .nils]), r.av] = some [(Tre.cut d).av, r.av] := frzL_cons (frz_cut0 d H) (frzL_cons (frz_good _ _ (good_tr r)) rfl)
  have e3 : ∀ (t : Tre), t.av.cells.length = 5 ∧ t.av.cells.all AV.one = true := fun t => by rw [cells_tr]; exact ⟨rfl, rfl⟩
  unfold litD
  simp only [List.map_cons, List.map_nil]
  rw [if_pos e1, e2, Option.bind_some, frz_nil0, Option.bind_some]
  simp only [List.zip_cons_cons, List.zip_nil_right, setS, (e3 _).1, (e3 _).2, List.length_replicate, List.length_set, List.replicate, List.set_cons_zero, List.set_cons_succ, List.length_cons, List.length_nil]
  rfl
theorem fill_tre {β : Type} (k : Int) (a b c : List UInt8) (ks : List Tre) (K : List AV → Option β) : (fillB (AV.cells (.agg [(.int .i64 0), .nils, .nils, .nils, .nils])) [(0, 1, (.int .i64 k)), (1, 1, bys a), (2, 1, bys b), (3, 1, bys c), (4, 1, kidsA ks)]).bind K = K [.int .i64 k, bys a, bys b, bys c, kidsA ks] := by
  simp [fillB, AV.cells, AV.isBad, bys, kidsA]
theorem sto_tre {β : Type} {o : AObj} (t : Tre) (K : List AObj → List Nat → Option β) : stoK 5 (.ptr 1 1 0 0) t.av [o, .row 5 [.agg [(.int .i64 0), .nils, .nils, .nils, .nils]]] K = K [o, .row 5 [t.av]] [] := by
  have h2 : storeA 5 (.ptr 1 1 0 0) t.av [o, .row 5 [.agg [(.int .i64 0), .nils, .nils, .nils, .nils]]] = some ([o, .row 5 [t.av]], []) := by
    unfold storeA
    simp only [List.getElem?_cons_succ, List.getElem?_cons_zero, cells_tr]
    rw [if_pos ⟨rfl, rfl, rfl⟩]
    have : setC (.agg [(.int .i64 0), .nils, .nils, .nils, .nils]) 0 [.int .i64 t.kind, bys t.key, bys t.value, bys t.digest, kidsA t.kids] = some t.av := by rw [av_eq]; rfl
    simp only [Option.bind_some, this, Option.map_some]
    rw [escs_good (by simp)]; rfl
  unfold stoK; rw [h2]; rfl
theorem ClashSame_ok (w : Int) (p : Tre) (n : Int) (hp : p.ok) : EV C n_law09_ClashSame [.int .i64 w, p.av, .int .i64 n] [] = some (.bool true, [], []) := by
  refine law09_ClashSame_of ?_
  simp only [List.length_nil, new_tr, List.nil_append]
  rw [callK_ok rfl up_ok]
  simp only [ld_tr0, Option.bind_some]
  rw [callK_ok (by simp) (small_ok p hp)]
  simp only [ld_tr0, Option.bind_some]
  rw [callK_ok (by simp) (Digest_ok w p hp)]
  simp only [resD, extA_0, extA_1, Option.bind_some]
  cases smallF p with
  | false => simp only [not_bool, Bool.not_false, Option.bind_some, splitK_t]; exact endB_good rfl
  | true =>
    simp only [not_bool, Bool.not_true, Option.bind_some, splitK_f, neqE0]
    by_cases e1 : (digF w p).1 = 0
    case neg => simp only [e1, decide_false, Bool.not_false, condK_t]; exact endB_good rfl
    case pos =>
      obtain ⟨hw, gp, dp⟩ := gd_of hp e1
      have hw' : 1 ≤ w ∧ w ≤ 32 := by simpa [wOk] using hw
      obtain ⟨gc, dc⟩ := gd_cut hw (gp.len hw)
      simp only [e1, decide_true, Bool.not_true, condK_f, ld_tr0, Option.bind_some, dp]
      rw [callK_ok (by simp) (Find_ok w p p hp hp), find_self hw gp]
      simp only [resFd, extA_0, extA_1, extA_2, Option.bind_some, ld_tr0]
      rw [fill_cut, callK_nil (bs := [.int .i64 w, p.av, (Tre.cut (dg w p)).av]) (by rw [killsL, killsL, killsL, killsL, kills_cut0, kills_good _ (good_tr p)]; rfl) (frzL_cons rfl (frzL_cons (frz_good _ _ (good_tr p)) (frzL_cons (frz_cut0 _ _) rfl))) (by simp) (Find_ok w p (.cut (dg w p)) hp gc.ok), find_cut hw gp]
      simp only [resFd, extA_0, extA_1, extA_2, Option.bind_some, offA_ptr, Nat.zero_add, ld_tr0_s, lenV_kids, neq_int]
      have q9 : ∀ ms, binA .eql (.interface ms) (cmpT Tryd.prog) false (errA 9) (.ifc t_api_Code (.int .i64 9)) = some (.bool true) := fun ms => eqlE ms 9 9 (by decide)
      by_cases hk : (p.kids.length : Int) = 2
      case neg =>
        simp only [hk, decide_false, Bool.not_false, splitK_t, q9, Option.bind_some]
        exact endB_good rfl
      case pos =>
        simp only [hk, decide_true, Bool.not_true, splitK_f, rem2, Option.bind_some, neq_int]
        by_cases hn : n.tmod 2 = 0
        case neg =>
          simp only [hn, decide_false, Bool.not_false, condK_t, splitK_t, q9, Option.bind_some]
          exact endB_good rfl
        case pos =>
          have h0 : p.kind ≠ 0 := fun h0 => by
            have := gp.formed
            rw [formedF_eq, Bool.and_eq_true] at this
            have := this.1
            unfold formed1 at this
            rw [if_pos h0] at this
            simp only [decide_eq_true_eq] at this
            omega
          have h3 : p.kind ≠ 3 := fun h3 => by
            have := gp.formed
            rw [formedF_eq, Bool.and_eq_true] at this
            have := this.1
            unfold formed1 at this
            rw [if_neg h0, if_neg (by omega), if_neg (by omega), if_pos h3] at this
            simp only [decide_eq_true_eq] at this
            omega
          obtain ⟨l, r, np⟩ := gp.node h0 h3
          obtain ⟨gl, dl⟩ := gd_cut hw (np.gl.len hw)
          have x0 : ∀ H, ixA 5 (kidsA p.kids) (.int .i64 0) H = some (.ip l.av.cells) := fun H => ixA_kids (i := 0) (by rw [np.kids]; rfl)
          have x1 : ∀ H, ixA 5 (kidsA p.kids) (.int .i64 1) H = some (.ip r.av.cells) := fun H => ixA_kids (i := 1) (by rw [np.kids]; rfl)
          simp only [hn, decide_true, Bool.not_true, condK_f, x0, loadA_tr, Option.bind_some]
          have Dl := Digest_ok w l np.gl.ok
          rw [np.gl.dig hw] at Dl
          rw [callK_ok (by simp) Dl]
          obtain ⟨q, hq⟩ : ∃ q : Tre, q = .mk p.kind p.key p.value p.digest [.cut (dg w l), r] := ⟨_, rfl⟩
          have hqav : (AV.agg [.int .i64 p.kind, bys p.key, bys p.value, bys p.digest, kidsA [.cut (dg w l), r]]) = q.av := by rw [hq, av_eq]; rfl
          have k1 := ((ok_eq p).1 hp)
          have gq : Gd w q ∧ dg w q = dg w p ∧ ownF w q = ownF w p ∧ pairP w q = pairP w p := by
            have pq : pv w q = pv w p := by rw [hq]; rfl
            have qk : q.kids = [.cut (dg w l), r] := by rw [hq]; rfl
            have qk0 : q.kind = p.kind := by rw [hq]; rfl
            have qkey : q.key = p.key := by rw [hq]; rfl
            have tq : toldF w q = some (dg w p) := by
              rw [told_node w q (.cut (dg w l)) r (by rw [qk0]; exact h0) (by rw [qk0]; exact h3) qk, pq, if_pos np.pv, gl.dgs, dl, np.gr.dgs, np.dg, qkey]
            have f1 : formed1 q = formed1 p := by
              have : p.kids.length = 2 := by omega
              have qv : q.value = p.value := by rw [hq]; rfl
              have qd : q.digest = p.digest := by rw [hq]; rfl
              have ql : q.kids.length = p.kids.length := by rw [qk, this]; rfl
              unfold formed1; rw [qk0, qkey, qv, qd, ql]
            refine ⟨⟨(ok_eq q).2 ?_, ?_, ?_, by rw [tq]; rfl⟩, by rw [dg, tq]; rfl, ?_, ?_⟩
            · rw [qk]
              refine ⟨by rw [hq]; exact k1.1, by rw [hq]; exact k1.2.1, by rw [hq]; exact k1.2.2.1, by simp, fun k hk => ?_⟩
              simp only [List.mem_cons, List.not_mem_nil, or_false] at hk
              rcases hk with rfl | rfl
              · exact gl.ok
              · exact np.gr.ok
            · rw [formedF_eq, f1, qk]
              have := gp.formed
              rw [formedF_eq, Bool.and_eq_true] at this
              rw [this.1]
              simp [gl.formed, np.gr.formed]
            · have := gp.deep
              rw [deepF_eq, Bool.or_eq_false_iff] at this ⊢
              refine ⟨?_, ?_⟩
              · have h64 : decide ((64 : Int) < 1) = false := by decide
                rw [h64, Bool.and_false]
              · have h2 := this.2
                rw [np.kids] at h2
                rw [qk]
                simp only [List.any_cons, List.any_nil, Bool.or_false, Bool.or_eq_false_iff] at h2 ⊢
                exact ⟨deep_cut _ _, h2.2⟩
            · unfold ownF
              rw [qk0, if_neg h0, if_neg h0, qk, np.kids, qkey, pq]
              show nodeF (dg w (.cut (dg w l))) _ _ = _
              rw [dl]
            · unfold pairP
              rw [qk0, qkey, pq]
          obtain ⟨gq, e2, e3, e4⟩ := gq
          have fq : findF w q p = (9, [], []) := by
            have : searchF w q p = none := by
              have q0 : q.kind = p.kind := by rw [hq]; rfl
              have qv : q.value = p.value := by rw [hq]; rfl
              have qk : q.kids = [.cut (dg w l), r] := by rw [hq]; rfl
              rw [searchF_eq, if_neg (by rw [q0]; omega), if_neg (by rw [e3]; simp), q0, if_neg h0, if_neg (by rw [e4]; simp), qv, if_neg (by simp), qk, np.kids, searchL]
              have : searchF w (.cut (dg w l)) l = none := by rw [searchF_eq, if_pos (.inl rfl)]
              rw [this]
              simp only [searchL]
              rw [search_self r np.gr]
            simp [findF, gq.dig hw, gp.dig hw, e2, this]
          simp only [resD, extA_0, extA_1, Option.bind_some, offA_ptr, Nat.zero_add, ld_tr0_k, ld_tr0_a, ld_tr0_b, ld_tr0_c, ld_tr0_s, fill_cut, x1, loadA_tr, litD_kids, fill_tre, new_z, List.length_singleton, List.cons_append, List.nil_append, drawK_t, ld_tr0, hqav, sto_tre, ld_tr1]
          rw [callK_ok (by simp) (Find_ok w q p gq.ok hp), fq]
          simp only [resFd, extA_0, extA_1, extA_2, Option.bind_some, splitK_t, q9, eqlE0, decide_true]
          exact endB_good rfl
end Go.Pm
