/- The document's check, to its end. -/
import Derived.Test.YtclfnechcblmoaaDoorW22
namespace Go.Pm
open Go.Proofs
set_option linter.unusedVariables false
set_option linter.unusedSimpArgs false
theorem ld_tabA (T : List AObj) : loadA true 9 (.ptr 0 1 0 0) (.row 9 [tabF] :: T) = some tabF := ld_tab0 T
/-- a key, or nil -/
def isLow (v : AV) (k : Bs) : Prop := v = bys k ∨ (v = .nils ∧ k = [])
theorem low_frz {v : AV} {k : Bs} (h : isLow v k) (H : List AObj) : frz H v = some (bys k) := by
  rcases h with rfl | ⟨rfl, rfl⟩
  · exact frz_good _ _ (good_bys k)
  · rfl
theorem low_kill {v : AV} {k : Bs} (h : isLow v k) : kills v = [] := by
  rcases h with rfl | ⟨rfl, rfl⟩
  · exact kills_good _ (good_bys k)
  · rfl
theorem rEmptyK {β : Type} {s : Spn} {a b : AV} {low high : Bs} {hl hh : Bool} (ha : isLow a low) (hb : isLow b high) (h : low.length ≤ 2^45) (H : List AObj) (K : AV → List AObj → List Nat → Option β) : callK (EV C) false n_ref06_Empty [s.av, a, b, .bool hl, .bool hh] H K = K (.bool (emptyF s low high hl hh)) H [] :=
  callK_nil (bs := [s.av, bys low, bys high, .bool hl, .bool hh]) (by simp [killsL, kills, kills_good _ (good_sp s), low_kill ha, low_kill hb]) (frzL_cons (frz_good _ _ (good_sp s)) (frzL_cons (low_frz ha H) (frzL_cons (low_frz hb H) rfl))) (by simp [goodL, AV.good]) (rEmpty_ok s low high hl hh h)
theorem ld_sp1x (s : Spn) (o0 : AObj) (T : List AObj) : loadA true 3 (.ptr 1 1 0 0) (o0 :: .row 3 [s.av] :: T) = some s.av := Eq.trans rfl rfl
def zIt : List AV := [.bool false, .bool false, .nils, .nils]
theorem fill_zi {β : Type} (K : List AV → Option β) : (fillB (AV.cells (.agg [(.bool false), (.bool false), .nils, .nils])) []).bind K = K zIt := rfl
theorem new_zi {β : Type} (H : List AObj) (K : AV → List AObj → List Nat → Option β) : newK (.agg [(.bool false), (.bool false), .nils, .nils]) H K = K (.ptr H.length 1 0 0) (H ++ [.row 4 [.agg zIt]]) [] := new_agg (by simp) rfl H K
def itL (x : Itm) : List AV := [.bool x.cut, .bool x.dark, bys x.key, bys x.value]
theorem itL_av (x : Itm) : x.av = .agg (itL x) := rfl
theorem itL_one (x : Itm) : (itL x).all AV.one = true := by simp [itL, AV.one, bys]
theorem itL_good (x : Itm) : goodL (itL x) = true := by simp [itL, goodL, AV.good]
theorem sto_it {β : Type} {H : List AObj} {b : Nat} {cs : List AV} {x : Itm} {K : List AObj → List Nat → Option β} (h : H[b]? = some (.row 4 [.agg cs])) (hc : cs.length = 4) : stoK 4 (.ptr b 1 0 0) x.av H K = K (H.set b (.row 4 [.agg (itL x)])) [] := by
  rw [itL_av, sto_agg h hc rfl (itL_one x), escs_good (itL_good x)]
theorem sto_zi {β : Type} {H : List AObj} {b : Nat} {K : List AObj → List Nat → Option β} (h : H[b]? = some (.row 4 [.agg zIt])) : stoK 4 (.ptr b 1 0 0) (.agg zIt) H K = K (H.set b (.row 4 [.agg zIt])) [] := by
  rw [sto_agg h rfl rfl rfl]; rfl
theorem litD_pr2 (a b : Bs) (H : List AObj) : litD 2 1 (.agg [.nils, .nils]) [(0, .agg [bys a, bys b])] H = some (.lst [(Pr.mk a b).av]) := litD_pr a b H
def resT8 (out : List Pr) : Option (List Pr) → AV
  | some l => .tup [prsA (out ++ l), .int .i64 0]
  | none => .tup [.lst [], .int .i64 8]
theorem endT (n : Int) (H : List AObj) (E : List Nat) : endB false false 0 (.tup [.nils, .int .i64 n]) H E = some (.tup [.lst [], .int .i64 n], [], []) := endB_frz rfl rfl
/-- the item that stands high -/
theorem rj33 (tb s : AObj) (sp : Spn) (hs : s = .row 3 [sp.av]) (p K O L : AObj) (items : List Itm) (cs : List AV) (ka : AV) (low : Bs) (hlo : isLow ka low) (hll : low.length ≤ 2^45) (hcs : cs[2]? = some ka) (hL : L = .row 4 [.agg cs]) (hl : items.length ≤ 2^40) (has : Bool) (i n : Nat) (hi : i + 1 ≤ 2^40) (r : R3) (Ea : List Nat) :
    ∀ (m k : Nat) (is : Bool) (hs' : List AV) (hka : AV) (high : Bs) (E : List Nat), items.length ≤ k + m → (is = true ∨ k ≤ items.length) → hs'.length = 4 → hs'[2]? = some hka → isLow hka high → (is = false → high = []) → (E.all fun e => decide (6 ≤ e)) = true →
    (∀ (hi' : Bs) (ih : Bool), (if is = true then (hi' = high ∧ ih = true) else (hi' = hiK (items.drop k) ∧ ih = (nextF (items.drop k)).isSome)) →
      (emptyF sp low hi' has ih = false → r = (.tup [.lst [], .int .i64 8], [], [])) ∧
      (emptyF sp low hi' has ih = true → ref08_Check_J27 0 (.ptr 1 1 0 0) (itsA items) (.slc 4 0 n n) (.ptr 5 1 0 0) (.bool has) (.int .i64 ((i + 1 : Nat) : Int)) [tb, s, p, K, O, L] Ea = some r)) →
    ref08_Check_J33 0 [tb, s, p, K, O, L] Ea (.ptr 1 1 0 0) (itsA items) (.slc 4 0 n n) (.ptr 5 1 0 0) (.bool has) (.int .i64 (i : Int)) (.ptr 6 1 0 0) (.bool is) (.int .i64 (k : Int)) [tb, s, p, K, O, L, .row 4 [.agg hs']] E = some r := by
  have e3 : IntKind.i64.wrap ((i : Int) + 1) = ((i + 1 : Nat) : Int) := w64 (by omega) (by omega)
  have fin : ∀ (hs' : List AV) (hka : AV) (hi' : Bs) (ih : Bool) (E : List Nat), hs'.length = 4 → hs'[2]? = some hka → isLow hka hi' → (E.all fun e => decide (6 ≤ e)) = true → (emptyF sp low hi' has ih = false → r = (.tup [.lst [], .int .i64 8], [], [])) →
      (emptyF sp low hi' has ih = true → ref08_Check_J27 0 (.ptr 1 1 0 0) (itsA items) (.slc 4 0 n n) (.ptr 5 1 0 0) (.bool has) (.int .i64 ((i + 1 : Nat) : Int)) [tb, s, p, K, O, L] Ea = some r) →
      ((loadA true 3 (.ptr 1 1 0 0) [tb, s, p, K, O, L, .row 4 [.agg hs']]).bind fun a13 =>
      (offA (.ptr 5 1 0 0) 2).bind fun a14 =>
      (loadA false 1 a14 [tb, s, p, K, O, L, .row 4 [.agg hs']]).bind fun a15 =>
      (offA (.ptr 6 1 0 0) 2).bind fun a16 =>
      (loadA false 1 a16 [tb, s, p, K, O, L, .row 4 [.agg hs']]).bind fun a17 =>
      callK (EV C) false n_ref06_Empty [a13, a15, a17, .bool has, .bool ih] [tb, s, p, K, O, L, .row 4 [.agg hs']] fun a18 H18 E18 =>
      (unA .not a18).bind fun a19 =>
      condK a19
        (endB false false 0 (.tup [.nils, (.int .i64 8)]) H18 ((E18 ++ E) ++ Ea))
        ((binA .add (Go.TypeDesc.int Go.IntKind.i64) (cmpT Tryd.prog) true (.int .i64 (i : Int)) (.int .i64 1)).bind fun a20 =>
        condB (List.all (E18 ++ E) (fun e => decide (List.length [tb, s, p, K, O, L] ≤ e)) && (AV.bel (List.length [tb, s, p, K, O, L]) (.ptr 1 1 0 0) && (AV.bel (List.length [tb, s, p, K, O, L]) (itsA items) && (AV.bel (List.length [tb, s, p, K, O, L]) (.slc 4 0 n n) && (AV.bel (List.length [tb, s, p, K, O, L]) (.ptr 5 1 0 0) && (AV.bel (List.length [tb, s, p, K, O, L]) (.bool has) && (AV.bel (List.length [tb, s, p, K, O, L]) a20 && true)))))))
        (ref08_Check_J27 0 (.ptr 1 1 0 0) (itsA items) (.slc 4 0 n n) (.ptr 5 1 0 0) (.bool has) a20 (List.take (List.length [tb, s, p, K, O, L]) H18) Ea))) = some r := fun hs' hka hi' ih E h4 h2 hh hE c1 c2 => by
    have l5 : loadA false 1 (.ptr 5 1 0 2) [tb, s, p, K, O, L, .row 4 [.agg hs']] = some ka := by rw [hL]; exact ld_fld rfl hcs
    have l6 : loadA false 1 (.ptr 6 1 0 2) [tb, s, p, K, O, L, .row 4 [.agg hs']] = some hka := ld_fld rfl h2
    have l1 : loadA true 3 (.ptr 1 1 0 0) [tb, s, p, K, O, L, .row 4 [.agg hs']] = some sp.av := by rw [hs]; exact ld_sp1x _ _ _
    simp -implicitDefEqProofs only [l1, l5, l6, ZS, Nat.reduceAdd]
    rw [rEmptyK hlo hh hll]
    cases he : emptyF sp low hi' has ih with
    | false =>
      simp -implicitDefEqProofs only [not_bool, ZS, Nat.reduceAdd]
      rw [c1 he]; exact endT 8 _ _
    | true =>
      simp -implicitDefEqProofs only [not_bool, add_int, e3, ZS, Nat.reduceAdd]
      rw [condB_t (by simp only [List.nil_append, hE, Bool.true_and]; simp [AV.bel, bel_good _ _ (good_its items)])]
      exact c2 he
  intro m
  induction m with
  | zero =>
    intro k is hs' hka high E hk hkl h4 h2 hh hf hE hc
    refine ref08_Check_J33_of ?_
    have e1 : ¬ ((k : Int) < (items.length : Int)) := by omega
    rw [lenV_its]
    simp only [Option.bind_some, lss_int, e1, decide_false, splitK_f]
    cases is with
    | true =>
      obtain ⟨c1, c2⟩ := hc high true (by simp)
      exact fin hs' hka high true E h4 h2 hh hE c1 c2
    | false =>
      have hd : items.drop k = [] := List.drop_eq_nil_of_le (by omega)
      have h0 := hf rfl
      subst h0
      obtain ⟨c1, c2⟩ := hc [] false (by rw [hd]; simp [hiK, nextF])
      exact fin hs' hka [] false E h4 h2 hh hE c1 c2
  | succ m ih =>
    intro k is hs' hka high E hk hkl h4 h2 hh hf hE hc
    refine ref08_Check_J33_of ?_
    rw [lenV_its]
    by_cases hlt : k < items.length
    · have e1 : ((k : Int) < (items.length : Int)) := by omega
      have e4 : IntKind.i64.wrap ((k : Int) + 1) = ((k + 1 : Nat) : Int) := w64 (by omega) (by omega)
      simp only [Option.bind_some, lss_int, e1, decide_true, splitK_t]
      cases is with
      | true =>
        obtain ⟨c1, c2⟩ := hc high true (by simp)
        simp only [not_bool, Bool.not_true, Option.bind_some, condK_f]
        exact fin hs' hka high true E h4 h2 hh hE c1 c2
      | false =>
        have hd : items.drop k = items[k] :: items.drop (k + 1) := List.drop_eq_getElem_cons hlt
        rw [hd] at hc
        simp -implicitDefEqProofs only [not_bool, ixA_its (List.getElem?_eq_getElem hlt), ZS, Nat.reduceAdd]
        cases hcut : items[k].cut with
        | true =>
          simp -implicitDefEqProofs only [add_int, e4, ZS, Nat.reduceAdd]
          refine ih (k + 1) false hs' hka high _ (by omega) (.inr (by omega)) h4 h2 hh hf hE fun hi' ih' hx => hc hi' ih' ?_
          simpa [hiK, nextF, hcut] using hx
        | false =>
          have li : ∀ H, loadA true 4 (.ip [.bool false, .bool items[k].dark, bys items[k].key, bys items[k].value]) H = some items[k].av := fun H => by have := ld_it items[k] H; rwa [hcut] at this
          simp -implicitDefEqProofs only [ixA_its (List.getElem?_eq_getElem hlt), hcut, li, ZS, Nat.reduceAdd]
          rw [sto_it (b := 6) rfl h4]
          simp -implicitDefEqProofs only [add_int, e4, ZS, Nat.reduceAdd]
          refine ih (k + 1) true (itL items[k]) (bys items[k].key) items[k].key _ (by omega) (.inl rfl) rfl rfl (.inl rfl) (by simp) hE fun hi' ih' hx => hc hi' ih' ?_
          simp only [if_true] at hx
          simp [hiK, nextF, hcut, hx.1, hx.2]
    · have e1 : ¬ ((k : Int) < (items.length : Int)) := by omega
      simp only [Option.bind_some, lss_int, e1, decide_false, splitK_f]
      cases is with
      | true =>
        obtain ⟨c1, c2⟩ := hc high true (by simp)
        exact fin hs' hka high true E h4 h2 hh hE c1 c2
      | false =>
        have hd : items.drop k = [] := List.drop_eq_nil_of_le (by omega)
        have h0 := hf rfl
        subst h0
        obtain ⟨c1, c2⟩ := hc [] false (by rw [hd]; simp [hiK, nextF])
        exact fin hs' hka [] false E h4 h2 hh hE c1 c2
theorem rj27 (tb p K : AObj) (s : Spn) (items : List Itm) (hl : items.length ≤ 2^39) (hk : ∀ x ∈ items, x.key.length ≤ 80) : ∀ (m i : Nat) (out : List Pr) (cs : List AV) (ka : AV) (low : Bs) (has : Bool) (E : List Nat), i + m = items.length → out.length ≤ i → cs.length = 4 → cs[2]? = some ka → isLow ka low → low.length ≤ 80 →
    ref08_Check_J27 0 (.ptr 1 1 0 0) (itsA items) (.slc 4 0 out.length out.length) (.ptr 5 1 0 0) (.bool has) (.int .i64 (i : Int)) [tb, .row 3 [s.av], p, K, vro 2 (out.map Pr.av), .row 4 [.agg cs]] E = some (resT8 out (tellI s (items.drop i) low has), [], [])
  | 0, i, out, cs, ka, low, has, E, hi, ho, h4, h2, hlo, hll => by
    refine ref08_Check_J27_of ?_
    have e1 : ¬ ((i : Int) < (items.length : Int)) := by omega
    have hd : items.drop i = [] := List.drop_eq_nil_of_le (by omega)
    simp -implicitDefEqProofs only [lenV_its, e1, hd, tellI, ZS, Nat.reduceAdd]
    refine endB_frz (u := resT8 out (some [])) (frz_tup (frzL_cons ((frz_vro (l := 4) (z := 2) rfl (by simp) (goodL_pr _)).trans ?_) rfl)) (by simp [resT8, AV.good, goodL])
    simp [prsA]
  | m + 1, i, out, cs, ka, low, has, E, hi, ho, h4, h2, hlo, hll => by
    refine ref08_Check_J27_of ?_
    have hlt : i < items.length := by omega
    have e1 : ((i : Int) < (items.length : Int)) := by omega
    have e3 : IntKind.i64.wrap ((i : Int) + 1) = ((i + 1 : Nat) : Int) := w64 (by omega) (by omega)
    have hd : items.drop i = items[i] :: items.drop (i + 1) := List.drop_eq_getElem_cons hlt
    simp -implicitDefEqProofs only [lenV_its, e1, ixA_its (List.getElem?_eq_getElem hlt), ZS, Nat.reduceAdd]
    rw [hd, tellI]
    cases hcut : items[i].cut with
    | true =>
      simp only [condK_t, if_true, fill_zi, new_zi, List.length_cons, List.length_nil, List.cons_append, List.nil_append, Nat.reduceAdd]
      rw [sto_zi rfl]
      simp -implicitDefEqProofs only [add_int, e3, ZS, Nat.reduceAdd]
      refine rj33 tb _ s rfl p K _ _ items cs ka low hlo (by omega) h2 rfl (by omega) has i out.length (by omega) _ E items.length (i + 1) false zIt .nils [] _ (by omega) (.inr (by omega)) rfl rfl (.inr ⟨rfl, rfl⟩) (fun _ => rfl) (by simp) fun hi' ih' hx => ?_
      simp only [Bool.false_eq_true, if_false] at hx
      obtain ⟨rfl, rfl⟩ := hx
      refine ⟨fun h => by rw [h]; rfl, fun h => ?_⟩
      rw [rj27 tb p K s items hl hk m (i + 1) out cs ka low has E (by omega) (by omega) h4 h2 hlo hll, h]
      rfl
    | false =>
      have hkk := hk _ (List.getElem_mem hlt)
      have li : ∀ H, loadA true 4 (.ip [.bool false, .bool items[i].dark, bys items[i].key, bys items[i].value]) H = some items[i].av := fun H => by have := ld_it items[i] H; rwa [hcut] at this
      simp -implicitDefEqProofs only [ixA_its (List.getElem?_eq_getElem hlt), hcut, li, ZS, Nat.reduceAdd]
      rw [sto_it (b := 5) rfl h4]
      simp -implicitDefEqProofs only [ld_sp1x, rInD, ixA_its (List.getElem?_eq_getElem hlt), ZS, Nat.reduceAdd]
      cases hin : inF s items[i].key with
      | false =>
        simp -implicitDefEqProofs only [add_int, e3, Bool.false_eq_true, false_and, ZS, Nat.reduceAdd]
        rw [condB_t (by simp [AV.bel, bel_good _ _ (good_its items)])]
        exact rj27 tb p K s items hl hk m (i + 1) out (itL items[i]) (bys items[i].key) items[i].key true E (by omega) (by omega) rfl rfl (.inl rfl) hkk
      | true =>
        simp -implicitDefEqProofs only [ixA_its (List.getElem?_eq_getElem hlt), ZS, Nat.reduceAdd]
        cases hdk : items[i].dark with
        | true =>
          simp -implicitDefEqProofs only [and_self, Bool.false_eq_true, ZS, Nat.reduceAdd]
          exact endT 8 _ _
        | false =>
          simp -implicitDefEqProofs only [ixA_its (List.getElem?_eq_getElem hlt), true_and, Bool.false_eq_true, ZS, Nat.reduceAdd]
          rw [fill_pr, litD_pr, Option.bind_some, appK_vro (l := 4) (es := out.map Pr.av) (ys := [(Pr.mk items[i].key items[i].value).av]) rfl rfl (by simp) rfl (by decide) (by decide) (by decide) (by simp; omega), esc_good (by simp [goodL])]
          simp -implicitDefEqProofs only [add_int, e3, ZS, Nat.reduceAdd]
          rw [condB_t (by simp [AV.bel, bel_good _ _ (good_its items)])]
          have := rj27 tb p K s items hl hk m (i + 1) (out ++ [⟨items[i].key, items[i].value⟩]) (itL items[i]) (bys items[i].key) items[i].key true E (by omega) (by simp; omega) rfl rfl (.inl rfl) hkk
          simp only [List.length_append, List.length_singleton, List.map_append, List.map_cons, List.map_nil] at this
          refine this.trans ?_
          cases tellI s (items.drop (i + 1)) items[i].key true with
          | none => rfl
          | some l => simp [resT8]
/-! ### the keys -/
theorem ld_itk {H : List AObj} {r n i : Nat} {es : List Itm} {x : Itm} (h : H[r]? = some (.row 4 (es.map Itm.av))) (hn : es.length = n) (hi : es[i]? = some x) : loadA false 1 (.ptr r n i 2) H = some (bys x.key) := by
  have h2 : (es.map Itm.av)[i]? = some x.av := by simp [hi]
  simp only [loadA, h]
  rw [if_pos (by simpa using hn), h2, Option.bind_some]
  rfl
theorem rj19 (s : Spn) (p : Tre) (items keys : List Itm) (hl : items.length ≤ 2^39) (hkl : keys.length ≤ 2^40) (hk : ∀ x ∈ items, x.key.length ≤ 80) : ∀ (m i : Nat) (E : List Nat), keys.length ≤ i + 1 + m →
    ref08_Check_J19 0 (.ptr 1 1 0 0) (itsA items) (.slc 3 0 keys.length keys.length) (.int .i64 ((i + 1 : Nat) : Int)) [.row 9 [tabF], .row 3 [s.av], .row 5 [p.av], vro 4 (keys.map Itm.av)] E =
      some (if risK ((keys.drop i).map Itm.key) = true then resT8 [] (tellI s items [] false) else .tup [.lst [], .int .i64 7], [], []) := by
  have fin : ∀ E : List Nat, ((fillB (AV.cells (.agg [(.bool false), (.bool false), .nils, .nils])) []).bind fun c14 =>
    newK (.agg [(.bool false), (.bool false), .nils, .nils]) ([.row 9 [tabF], .row 3 [s.av], .row 5 [p.av], vro 4 (keys.map Itm.av)] ++ [.vrow]) fun a15 H15 E15 =>
    stoK 4 a15 (.agg c14) H15 fun H16 E16 =>
    ref08_Check_J27 0 (.ptr 1 1 0 0) (itsA items) (.slc (List.length [AObj.row 9 [tabF], .row 3 [s.av], .row 5 [p.av], vro 4 (keys.map Itm.av)]) 0 0 0) a15 (.bool false) (.int .i64 0) H16 (E16 ++ (E15 ++ E))) = some (resT8 [] (tellI s items [] false), [], []) := fun E => by
    simp only [fill_zi, new_zi, List.length_cons, List.length_nil, List.cons_append, List.nil_append, Nat.reduceAdd]
    rw [sto_zi rfl]
    have := rj27 (.row 9 [tabF]) (.row 5 [p.av]) (vro 4 (keys.map Itm.av)) s items hl hk items.length 0 [] zIt .nils [] false ([] ++ ([] ++ E)) (by omega) (by simp) rfl rfl (.inr ⟨rfl, rfl⟩) (by simp)
    rw [List.drop_zero] at this
    exact this
  have short : ∀ i, keys.length ≤ i + 1 → risK ((keys.drop i).map Itm.key) = true := fun i h => by
    cases hx : keys.drop i with
    | nil => rfl
    | cons a x =>
      have : (keys.drop i).length ≤ 1 := by simp; omega
      rw [hx] at this
      cases x with
      | nil => rfl
      | cons b y => simp at this
  intro m
  induction m with
  | zero =>
    intro i E hi
    refine ref08_Check_J19_of ?_
    have e1 : ¬ (((i + 1 : Nat) : Int) < (keys.length : Int)) := by omega
    rw [lenV_vro (l := 3) (z := 4) (es := keys.map Itm.av) rfl (by simp), short i (by omega), if_pos rfl]
    simp only [Option.bind_some, lss_int, e1, decide_false, condK_f]
    exact fin E
  | succ m ih =>
    intro i E hi
    refine ref08_Check_J19_of ?_
    rw [lenV_vro (l := 3) (z := 4) (es := keys.map Itm.av) rfl (by simp)]
    by_cases hlt : i + 1 < keys.length
    · have hi0 : i < keys.length := by omega
      have e1 : (((i + 1 : Nat) : Int) < (keys.length : Int)) := by omega
      have e3 : IntKind.i64.wrap (((i + 1 : Nat) : Int) + 1) = ((i + 1 + 1 : Nat) : Int) := w64 (by omega) (by omega)
      have e4 : IntKind.i64.wrap (((i + 1 : Nat) : Int) - 1) = ((i : Nat) : Int) := w64 (by omega) (by omega)
      have hv : vro 4 (keys.map Itm.av) = .row 4 (keys.map Itm.av) := vro_cons (by cases keys <;> simp at hlt ⊢)
      have hrow : ([.row 9 [tabF], .row 3 [s.av], .row 5 [p.av], vro 4 (keys.map Itm.av)] : List AObj)[3]? = some (.row 4 (keys.map Itm.av)) := by rw [hv]; rfl
      have hd1 : keys.drop i = keys[i] :: keys.drop (i + 1) := List.drop_eq_getElem_cons hi0
      have hd2 : keys.drop (i + 1) = keys[i + 1] :: keys.drop (i + 2) := List.drop_eq_getElem_cons hlt
      have hr : risK ((keys.drop i).map Itm.key) = (ltB keys[i].key keys[i + 1].key && risK ((keys.drop (i + 1)).map Itm.key)) := by rw [hd1, hd2]; rfl
      simp -implicitDefEqProofs only [e1, e4, sub_int, ix_row hrow (List.length_map _) hi0, ix_row hrow (List.length_map _) hlt, ld_itk hrow rfl (List.getElem?_eq_getElem hi0), ld_itk hrow rfl (List.getElem?_eq_getElem hlt), geq_str, ZS, Nat.reduceAdd]
      rw [hr]
      cases hc : ltB keys[i].key keys[i + 1].key with
      | true =>
        simp -implicitDefEqProofs only [Bool.true_and, add_int, e3, ZS, Nat.reduceAdd]
        exact ih (i + 1) E (by omega)
      | false =>
        simp -implicitDefEqProofs only [Bool.false_and, Bool.false_eq_true, ZS, Nat.reduceAdd]
        exact endT 7 _ _
    · have e1 : ¬ (((i + 1 : Nat) : Int) < (keys.length : Int)) := by omega
      rw [short i (by omega), if_pos rfl]
      simp only [Option.bind_some, lss_int, e1, decide_false, condK_f]
      exact fin E
theorem lit_it {β : Type} (x : Itm) (H : List AObj) (K : AV → List AObj → List Nat → Option β) : litK 4 1 (.agg [(.bool false), (.bool false), .nils, .nils]) [(0, x.av)] H K = K (.lst [x.av]) H [] := Eq.trans rfl rfl
theorem rj14 (s : Spn) (p : Tre) (items : List Itm) (hl : items.length ≤ 2^39) (hk : ∀ x ∈ items, x.key.length ≤ 80) : ∀ (m i : Nat) (keys : List Itm) (E : List Nat), i + m = items.length → keys.length ≤ i →
    ref08_Check_J14 0 (.ptr 1 1 0 0) (itsA items) (.slc 3 0 keys.length keys.length) (.int .i64 (i : Int)) [.row 9 [tabF], .row 3 [s.av], .row 5 [p.av], vro 4 (keys.map Itm.av)] E =
      some (if risK ((keys ++ (items.drop i).filter fun x => !x.cut).map Itm.key) = true then resT8 [] (tellI s items [] false) else .tup [.lst [], .int .i64 7], [], [])
  | 0, i, keys, E, hi, hkl => by
    refine ref08_Check_J14_of ?_
    have e1 : ¬ ((i : Int) < (items.length : Int)) := by omega
    have hd : items.drop i = [] := List.drop_eq_nil_of_le (by omega)
    simp -implicitDefEqProofs only [lenV_its, e1, hd, List.filter_nil, List.append_nil, ZS, Nat.reduceAdd]
    have := rj19 s p items keys hl (by omega) hk keys.length 0 E (by omega)
    rw [List.drop_zero] at this
    exact this
  | m + 1, i, keys, E, hi, hkl => by
    refine ref08_Check_J14_of ?_
    have hlt : i < items.length := by omega
    have e1 : ((i : Int) < (items.length : Int)) := by omega
    have e3 : IntKind.i64.wrap ((i : Int) + 1) = ((i + 1 : Nat) : Int) := w64 (by omega) (by omega)
    have hd : items.drop i = items[i] :: items.drop (i + 1) := List.drop_eq_getElem_cons hlt
    simp -implicitDefEqProofs only [lenV_its, e1, ixA_its (List.getElem?_eq_getElem hlt), not_bool, ZS, Nat.reduceAdd]
    rw [hd, List.filter_cons]
    cases hc : items[i].cut with
    | true =>
      simp -implicitDefEqProofs only [add_int, e3, Bool.false_eq_true, ZS, Nat.reduceAdd]
      exact rj14 s p items hl hk m (i + 1) keys E (by omega) (by omega)
    | false =>
      have li : ∀ H, loadA true 4 (.ip [.bool false, .bool items[i].dark, bys items[i].key, bys items[i].value]) H = some items[i].av := fun H => by have := ld_it items[i] H; rwa [hc] at this
      simp -implicitDefEqProofs only [ixA_its (List.getElem?_eq_getElem hlt), hc, li, lit_it, ZS, Nat.reduceAdd]
      rw [appK_vro (l := 3) (es := keys.map Itm.av) (ys := [items[i].av]) rfl rfl (by simp) rfl (by decide) (by decide) (by decide) (by simp; omega), esc_good (by simp [goodL])]
      simp -implicitDefEqProofs only [add_int, e3, ZS, Nat.reduceAdd]
      have := rj14 s p items hl hk m (i + 1) (keys ++ [items[i]]) ([] ++ ([] ++ []) ++ E) (by omega) (by simp; omega)
      simp only [List.length_append, List.length_singleton, List.map_append, List.map_cons, List.map_nil, List.append_assoc, List.singleton_append] at this
      simp only [List.map_append, List.map_cons]
      exact this
def resR8 (c : Int × List Pr) : AV := .tup [prsA c.2, .int .i64 c.1]
@[simp] theorem good_resR8 (c : Int × List Pr) : (resR8 c).good = true := by simp [resR8, AV.good, goodL]
theorem items_small (t : Tre) : formedF t = true → ∀ x ∈ itemsF t, x.key.length ≤ 80 := by
  induction t using Tre.ind with
  | h t ih =>
    intro hf x hx
    by_cases h0 : t.kind = 0
    · rw [items_none h0] at hx; simp at hx
    · by_cases h3 : t.kind = 3
      · rw [items_cut h3] at hx
        rw [List.mem_singleton.1 hx]; simp [cutI]
      · obtain ⟨hkk, hka, hva, l, r, hk⟩ := formed_node hf h0 h3
        rw [items_node h0 h3 hk] at hx
        rcases List.mem_append.1 hx with hx | hx
        · exact ih l (by rw [hk]; simp) (formed_kids hf l (by rw [hk]; simp)) x hx
        · rcases List.mem_cons.1 hx with rfl | hx
          · exact hka
          · exact ih r (by rw [hk]; simp) (formed_kids hf r (by rw [hk]; simp)) x hx
theorem ld_tr2x (t : Tre) (o0 o1 : AObj) (T : List AObj) : loadA true 5 (.ptr 2 1 0 0) (o0 :: o1 :: .row 5 [t.av] :: T) = some t.av := ld_tr2 t T
theorem rChk_ok (w : Int) (root : Bs) (s : Spn) (p : Tre) (hp : p.ok) (hn : formedF p = true → (itemsF p).length ≤ 2^39) : EV C n_ref08_Check [tabF, .int .i64 w, bys root, s.av, p.av] [] = some (resR8 (chkF w root s p), [], []) := by
  refine ref08_Check_of ?_
  simp -implicitDefEqProofs only [new_tab, new_sp, ld_tab0, ZS, ZT, Nat.reduceAdd]
  unfold chkF
  split
  · have hw : wOk w = false := by simp only [wOk, decide_eq_false_iff_not]; omega
    rw [if_pos (.inl hw)]; exact endT 1 _ _
  · split
    · have hw : wOk w = false := by simp only [wOk, decide_eq_false_iff_not]; omega
      rw [if_pos (.inl hw)]; exact endT 1 _ _
    · have hw : wOk w = true := by simp only [wOk, decide_eq_true_eq]; omega
      by_cases hr : (root.length : Int) = w
      · rw [if_neg (by simp [hw, hr])]
        simp -implicitDefEqProofs only [hr, ZS, ZT, Nat.reduceAdd]
        rw [callK_ok (by simp) (rCheck_ok p hp)]
        by_cases hc : checkF p = 0
        · have hf := check_formed hc
          simp -implicitDefEqProofs only [hc, ld_tab0, ZS, ZT, Nat.reduceAdd]
          rw [callK_ok (by simp [good_tab]) (rDigest_ok w hw p hp hf)]
          simp -implicitDefEqProofs only [resR, ZS, ZT, Nat.reduceAdd]
          cases hT : toldF w p with
          | none =>
            have : digF w p = (3, []) := by simp [digF, hw, hc, hT]
            rw [rdF_none hT, this]
            simp -implicitDefEqProofs only [ne_eq, show ¬ ((3 : Int) = 0) from by decide, not_false_eq_true, ZS, ZT, Nat.reduceAdd]
            exact endT 3 _ _
          | some d =>
            have hdg : digF w p = (0, d) := by simp [digF, hw, hc, hT]
            rw [rdF_some hT, hdg]
            by_cases hd : d = root
            · simp -implicitDefEqProofs only [hd, ne_eq, not_true_eq_false, ZS, ZT, Nat.reduceAdd]
              rw [callK_ok (by simp) (Items_ok p hf (by have := hn hf; omega))]
              have := rj14 s p (itemsF p) (hn hf) (items_small p hf) (itemsF p).length 0 [] ([] ++ ([] ++ ([] ++ ([] ++ ([] ++ ([] ++ [])))))) (by omega) (by simp)
              refine this.trans ?_
              rw [List.drop_zero, List.nil_append, keys_items p hf, tell_top s p hf]
              show some ((if risN (nodesF p) = true then _ else _), _, _) = _
              cases risN (nodesF p) with
              | false => rfl
              | true =>
                simp only [if_true, behindF]
                cases openF s p [] [] false false <;> rfl
            · simp -implicitDefEqProofs only [hd, ne_eq, not_true_eq_false, not_false_eq_true, ZS, ZT, Nat.reduceAdd]
              exact endT 6 _ _
        · have hdg : digF w p = (checkF p, []) := by simp [digF, hw, hc]
          rw [hdg]
          simp -implicitDefEqProofs only [hc, ne_eq, not_false_eq_true, ZS, ZT, Nat.reduceAdd]
          exact endT _ _ _
      · rw [if_pos (.inr hr)]
        simp -implicitDefEqProofs only [hr, ZS, ZT, Nat.reduceAdd]
        exact endT 1 _ _
end Go.Pm
