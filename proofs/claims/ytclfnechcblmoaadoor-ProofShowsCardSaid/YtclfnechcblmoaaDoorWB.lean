/- Package proof: what is shown. -/
import Derived.Test.YtclfnechcblmoaaDoorWA
import Derived.Test.YtclfnechcblmoaaDoorT11
namespace Go.Pm
open Go.Proofs
set_option linter.unusedVariables false
set_option linter.unusedSimpArgs false
def cutT (w : Int) (t : Tre) : Tre := if t.kids.length = 0 then Tre.nil else Tre.cut (dg w t)
mutual
def showF (w : Int) (s : Spn) : Tre → Tre
  | .mk k a b c ks => match ks, showL w s ks with
    | l :: r :: _, x :: y :: _ =>
      if inF s a = true then .mk 1 a b [] [x, y]
      else if ltB a s.a = true then .mk 2 a [] (ofF w (0 :: b)) [cutT w l, y]
      else .mk 2 a [] (ofF w (0 :: b)) [x, cutT w r]
    | _, _ => Tre.nil
def showL (w : Int) (s : Spn) : List Tre → List Tre
  | [] => []
  | t :: ts => showF w s t :: showL w s ts
end
theorem show_leaf (w : Int) (s : Spn) {t : Tre} (h : t.kids = []) : showF w s t = Tre.nil := by
  cases t with | mk k a b c ks => simp only [Tre.kids] at h; subst h; simp only [showF, showL]
theorem show_two (w : Int) (s : Spn) {t l r : Tre} (h : t.kids = [l, r]) : showF w s t = if inF s t.key = true then .mk 1 t.key t.value [] [showF w s l, showF w s r]
      else if ltB t.key s.a = true then .mk 2 t.key [] (ofF w (0 :: t.value)) [cutT w l, showF w s r]
      else .mk 2 t.key [] (ofF w (0 :: t.value)) [showF w s l, cutT w r] := by
  cases t with | mk k a b c ks => simp only [Tre.kids] at h; subst h; simp only [showF, showL]; rfl
/-- a full tree has a digest -/
theorem full_gd {w : Int} (hw : wOk w = true) (t : Tre) : t.ok → formedF t = true → fullF t = true → deepF t 64 = false → Gd w t := by
  induction t using Tre.ind with
  | h t ih =>
    intro ht hf hfl hd
    refine ⟨ht, hf, hd, ?_⟩
    have hks := ((ok_eq t).1 ht).2.2.2.2
    rw [full_eq, Bool.and_eq_true, List.all_eq_true] at hfl
    have hk2 := hfl.1
    simp only [Bool.not_eq_true', Bool.or_eq_false_iff, decide_eq_false_iff_not] at hk2
    have hdk : ∀ k ∈ t.kids, deepF k 64 = false := fun k hk => by
      rw [deepF_eq, Bool.or_eq_false_iff, List.any_eq_false] at hd
      have := hd.2 k hk
      simp only [Bool.not_eq_true] at this
      exact deep_mono k (by omega) this
    by_cases h0 : t.kind = 0
    · rw [told_none w t h0]; rfl
    · obtain ⟨hkk, hka, hva, l, r, hk⟩ := formed_node hf h0 hk2.2
      have hl : l ∈ t.kids := by rw [hk]; simp
      have hr : r ∈ t.kids := by rw [hk]; simp
      have gl := ih l hl (hks l hl) (formed_kids hf l hl) (hfl.2 l hl) (hdk l hl)
      have gr := ih r hr (hks r hr) (formed_kids hf r hr) (hfl.2 r hr) (hdk r hr)
      have h1 : t.kind = 1 := hkk.resolve_right hk2.1
      have hpv : ((pv w t).length : Int) = w := by
        unfold pv; rw [if_pos h1]; exact ofF_len hw _
      rw [told_node w t l r h0 hk2.2 hk, if_pos hpv, gl.dgs, gr.dgs]
      rfl
theorem full_kind {t : Tre} (hf : formedF t = true) (hfl : fullF t = true) : (t.kind = 0 ∧ t.kids = []) ∨ (t.kind = 1 ∧ ∃ l r, t.kids = [l, r]) := by
  rw [full_eq, Bool.and_eq_true] at hfl
  have hk2 := hfl.1
  simp only [Bool.not_eq_true', Bool.or_eq_false_iff, decide_eq_false_iff_not] at hk2
  by_cases h0 : t.kind = 0
  · exact .inl ⟨h0, formed_leaf hf (.inl h0)⟩
  · obtain ⟨hkk, _, _, l, r, hk⟩ := formed_node hf h0 hk2.2
    exact .inr ⟨hkk.resolve_right hk2.1, l, r, hk⟩
/-! ### prover.cut -/
def prA (w : Int) (s : Spn) : AV := .agg [.int .i64 w, bys s.a, bys s.b, .bool s.o]
@[simp] theorem good_prA (w : Int) (s : Spn) : (prA w s).good = true := by simp [prA, AV.good, goodL]
theorem new_prA {β : Type} (w : Int) (s : Spn) (H : List AObj) (K : AV → List AObj → List Nat → Option β) : newK (prA w s) H K = K (.ptr H.length 1 0 0) (H ++ [.row 4 [prA w s]]) [] := new_agg (by simp) rfl H K
theorem ld_prw (w : Int) (s : Spn) (T : List AObj) : loadA false 1 (.ptr 0 1 0 0) (.row 4 [prA w s] :: T) = some (.int .i64 w) := Eq.trans rfl rfl
theorem ld_prs (w : Int) (s : Spn) (T : List AObj) : loadA true 3 (.ptr 0 1 0 1) (.row 4 [prA w s] :: T) = some s.av := Eq.trans rfl rfl
theorem ld_pra (w : Int) (s : Spn) (T : List AObj) : loadA false 1 (.ptr 0 1 0 1) (.row 4 [prA w s] :: T) = some (bys s.a) := Eq.trans rfl rfl
theorem ld_pr4 (w : Int) (s : Spn) (T : List AObj) : loadA true 4 (.ptr 0 1 0 0) (.row 4 [prA w s] :: T) = some (prA w s) := Eq.trans rfl rfl
theorem sto_zt {β : Type} {H : List AObj} {b : Nat} {cs ds : List AV} {K : List AObj → List Nat → Option β} (h : H[b]? = some (.row 5 [.agg cs])) (hc : cs.length = 5) (hd : ds.length = 5) (h1 : ds.all AV.one = true) (he : escs b ds = []) :
    stoK 5 (.ptr b 1 0 0) (.agg ds) H K = K (H.set b (.row 5 [.agg ds])) [] := by
  rw [sto_agg h hc hd h1, he]
theorem pcut_ok (w : Int) (s : Spn) (hw : wOk w = true) (t : Tre) (h : Gd w t) : EV C n_proof_prover_cut [prA w s, t.av] [] = some ((cutT w t).av, [], []) := by
  refine proof_prover_cut_of ?_
  simp -implicitDefEqProofs only [new_prA, new_z, ZS, ZT, Nat.reduceAdd]
  unfold cutT
  by_cases h0 : t.kids.length = 0
  · have h0' : (t.kids.length : Int) = 0 := by omega
    rw [if_pos h0', if_pos h0, fill_nil, sto_zt (b := 2) rfl rfl rfl rfl rfl, ld_agg (l := 2) (z := 5) rfl rfl]
    exact endB_frz (frz_nil0 _) (good_tr _)
  · have h0' : ¬ (t.kids.length : Int) = 0 := by omega
    rw [if_neg h0', if_neg h0]
    have D := Digest_ok w t h.ok
    rw [h.dig hw] at D
    simp -implicitDefEqProofs only [ld_prw, ZS, ZT, Nat.reduceAdd]
    rw [callK_ok (by simp) D]
    have e0 : errA 0 = .nili := rfl
    simp -implicitDefEqProofs only [resD, neqE0, decide_true, ZS, ZT, Nat.reduceAdd]
    rw [fill_cut, sto_zt (b := 2) rfl rfl rfl (by simp [AV.one, bys]) (by simp [escs, belL, AV.bel, bel_good _ _ (good_bys _)]), ld_agg (l := 2) (z := 5) rfl rfl]
    exact endB_frz (frz_cut0 _ _) (good_tr _)
/-! ### prover.show -/
theorem drawK_eq {α β : Type} (a : α) (x : Option β) : drawK (a = a) x = x := if_pos rfl
theorem drawK_T {β : Type} (x : Option β) : drawK True x = x := if_pos trivial
theorem siz_tr {β : Type} (t : Tre) (x : Option β) : sizK 5 t.av x = x := by unfold sizK; rw [if_pos (by rw [cells_tr]; rfl)]
theorem ld_tr4 (t : Tre) (o0 o1 o2 o3 : AObj) (T : List AObj) : loadA true 5 (.ptr 4 1 0 0) (o0 :: o1 :: o2 :: o3 :: .row 5 [t.av] :: T) = some t.av := ld_box rfl
theorem ld_tr5 (t : Tre) (o0 o1 o2 o3 o4 : AObj) (T : List AObj) : loadA true 5 (.ptr 5 1 0 0) (o0 :: o1 :: o2 :: o3 :: o4 :: .row 5 [t.av] :: T) = some t.av := ld_box rfl
theorem fill_k {β : Type} (a : Bs) (K : List AV → Option β) : (fillB (AV.cells (.agg [(.int .i64 0), .nils, .nils, .nils, .nils])) [(0, 1, (.int .i64 1)), (1, 1, bys a)]).bind K = K [.int .i64 1, bys a, .nils, .nils, .nils] := by
  simp [fillB, AV.cells, AV.isBad, bys]
theorem litD_kids2 (x y : Tre) (H : List AObj) : litD 5 2 (.agg [(.int .i64 0), .nils, .nils, .nils, .nils]) [(0, x.av), (1, y.av)] H = some (kidsA [x, y]) := by
  have e1 : (killsL [x.av, y.av]).isEmpty = true := by simp [killsL, kills_good _ (good_tr x), kills_good _ (good_tr y)]
  have e2 : frzL H [x.av, y.av] = some [x.av, y.av] := frzL_cons (frz_good _ _ (good_tr x)) (frzL_cons (frz_good _ _ (good_tr y)) rfl)
  have e3 : ∀ (t : Tre), t.av.cells.length = 5 ∧ t.av.cells.all AV.one = true := fun t => by rw [cells_tr]; exact ⟨rfl, rfl⟩
  unfold litD
  simp only [List.map_cons, List.map_nil]
  rw [if_pos e1, e2, Option.bind_some, frz_nil0, Option.bind_some]
  simp only [List.zip_cons_cons, List.zip_nil_right, setS, (e3 _).1, (e3 _).2, List.length_replicate, List.length_set, List.replicate, List.set_cons_zero, List.set_cons_succ, List.length_cons, List.length_nil]
  rfl
theorem escs_bys (l : Nat) (b : Bs) : escs l [bys b] = [] := escs_good (by simp [goodL])
theorem escs_kids (l : Nat) (b : List Tre) : escs l [kidsA b] = [] := escs_good (by simp [goodL])
theorem escs_int (l : Nat) (b : Int) : escs l [.int .i64 b] = [] := escs_good rfl
theorem frz_in (k v : Bs) (x y : Tre) (H : List AObj) : frz H (.agg [.int .i64 1, bys k, bys v, .nils, kidsA [x, y]]) = some (Tre.mk 1 k v [] [x, y]).av :=
  (frz_agg (us := [.int .i64 1, bys k, bys v, .lst [], kidsA [x, y]]) (frzL_cons rfl (frzL_cons (frz_good _ _ (good_bys _)) (frzL_cons (frz_good _ _ (good_bys _)) (frzL_cons rfl (frzL_cons (frz_good _ _ (good_kids _)) rfl)))))).trans (by rw [av_eq]; rfl)
theorem frz_dark (k d : Bs) (x y : Tre) (H : List AObj) : frz H (.agg [.int .i64 2, bys k, .nils, bys d, kidsA [x, y]]) = some (Tre.mk 2 k [] d [x, y]).av :=
  (frz_agg (us := [.int .i64 2, bys k, .lst [], bys d, kidsA [x, y]]) (frzL_cons rfl (frzL_cons (frz_good _ _ (good_bys _)) (frzL_cons rfl (frzL_cons (frz_good _ _ (good_bys _)) (frzL_cons (frz_good _ _ (good_kids _)) rfl)))))).trans (by rw [av_eq]; rfl)
theorem show_ok (w : Int) (s : Spn) (hw : wOk w = true) (t : Tre) : Gd w t → fullF t = true → EV C n_proof_prover_show [prA w s, t.av] [] = some ((showF w s t).av, [], []) := by
  induction t using Tre.ind with
  | h t ih =>
    intro hg hfl
    refine proof_prover_show_of ?_
    simp -implicitDefEqProofs only [new_prA, new_z, ZS, ZT, Nat.reduceAdd]
    rcases full_kind hg.formed hfl with ⟨h0, hk⟩ | ⟨h1, l0, r0, hk0⟩
    · rw [show_leaf w s hk, hk]
      simp -implicitDefEqProofs only [List.length_nil, Int.natCast_zero, if_true]
      rw [fill_nil, sto_zt (b := 2) rfl rfl rfl rfl rfl, ld_agg (l := 2) (z := 5) rfl rfl]
      exact endB_frz (frz_nil0 _) (good_tr _)
    · obtain ⟨l, r, nd⟩ := hg.node (by omega) (by omega)
      have hk := nd.kids
      have hkey := nd.key
      have hval := nd.value
      have hl : l ∈ t.kids := by rw [hk]; simp
      have hr : r ∈ t.kids := by rw [hk]; simp
      have hfa : fullF l = true ∧ fullF r = true := by
        rw [full_eq, Bool.and_eq_true, List.all_eq_true] at hfl
        exact ⟨hfl.2 l hl, hfl.2 r hr⟩
      have x0 : ∀ H, ixA 5 (kidsA t.kids) (.int .i64 0) H = some (.ip l.av.cells) := fun H => ixA_kids (i := 0) (by rw [hk]; rfl)
      have x1 : ∀ H, ixA 5 (kidsA t.kids) (.int .i64 1) H = some (.ip r.av.cells) := fun H => ixA_kids (i := 1) (by rw [hk]; rfl)
      have e0 : ¬ ((t.kids.length : Int) = 0) := by rw [hk]; simp
      have sl : ∀ H, callD (EV C) n_proof_prover_show [prA w s, l.av] H = some (showF w s l).av := fun H => callD_ok (by simp [goodL]) (ih l hl nd.gl hfa.1)
      have sr : ∀ H, callD (EV C) n_proof_prover_show [prA w s, r.av] H = some (showF w s r).av := fun H => callD_ok (by simp [goodL]) (ih r hr nd.gr hfa.2)
      have cl : ∀ H, callD (EV C) n_proof_prover_cut [prA w s, l.av] H = some (cutT w l).av := fun H => callD_ok (by simp [goodL]) (pcut_ok w s hw l nd.gl)
      have cr : ∀ H, callD (EV C) n_proof_prover_cut [prA w s, r.av] H = some (cutT w r).av := fun H => callD_ok (by simp [goodL]) (pcut_ok w s hw r nd.gr)
      have dv : ∀ H, callD (EV C) n_digest_Value [bys t.value] H = some (bys (0 :: t.value)) := fun H => callD_ok (by simp [goodL]) (Value_ok t.value (by omega))
      have dof : ∀ H, callD (EV C) n_digest_Of [.int .i64 w, bys (0 :: t.value)] H = some (.tup [bys (ofF w (0 :: t.value)), .nili]) := fun H => callD_ok (by simp [goodL, AV.good]) (Of_ok w hw _ (by simp; omega))
      rw [if_neg e0, callK_ok (by simp) (Clone_byte_ok t.key (by omega)), fill_k]
      simp -implicitDefEqProofs only [ZS, ZT, Nat.reduceAdd]
      rw [sto_zt (b := 3) rfl rfl rfl (by simp [AV.one, bys]) (by simp [escs, belL, AV.bel, bel_good _ _ (good_bys _)])]
      simp -implicitDefEqProofs only [x0, x1, siz_tr, drawK_eq, drawK_T, ld_prs, InK, ZS, ZT, Nat.reduceAdd]
      rw [show_two w s hk]
      cases hi : inF s t.key with
      | true =>
        simp -implicitDefEqProofs only [ZS, ZT, Nat.reduceAdd]
        rw [callK_ok (by simp) (Clone_byte_ok t.value (by omega)), sto_fld (l := 3) rfl (by simp) rfl rfl, escs_bys]
        simp -implicitDefEqProofs only [ld_pr4, ld_tr4, ld_tr5, sl, sr, litD_kids2, ZS, ZT, Nat.reduceAdd]
        rw [sto_fld (l := 3) rfl (by simp) rfl rfl, escs_kids]
        simp -implicitDefEqProofs only [ZS, ZT, Nat.reduceAdd]
        rw [ld_agg (l := 3) (z := 5) rfl rfl, Option.bind_some, sto_zt (b := 2) rfl rfl rfl (by simp [AV.one, bys, kidsA]) (by simp [escs, belL, AV.bel, bel_good _ _ (good_bys _), bel_good _ _ (good_kids _)]), ld_agg (l := 2) (z := 5) rfl rfl, Option.bind_some]
        exact endB_frz (frz_in _ _ _ _ _) (good_tr _)
      | false =>
        simp -implicitDefEqProofs only [Bool.false_eq_true, ZS, ZT, Nat.reduceAdd]
        rw [sto_fld (l := 3) rfl (by simp) rfl rfl, escs_int]
        simp -implicitDefEqProofs only [ld_prw, dv, dof, neq_nil1, ZS, ZT, Nat.reduceAdd]
        rw [sto_fld (l := 3) rfl (by simp) rfl rfl, escs_bys]
        simp -implicitDefEqProofs only [ld_pra, CompareK, cmp_lt, ZS, ZT, Nat.reduceAdd]
        cases hb : ltB t.key s.a with
        | true =>
          simp -implicitDefEqProofs only [ld_pr4, ld_tr4, ld_tr5, sl, sr, cl, cr, litD_kids2, ZS, ZT, Nat.reduceAdd]
          rw [sto_fld (l := 3) rfl (by simp) rfl rfl, escs_kids]
          simp -implicitDefEqProofs only [ZS, ZT, Nat.reduceAdd]
          rw [ld_agg (l := 3) (z := 5) rfl rfl, Option.bind_some, sto_zt (b := 2) rfl rfl rfl (by simp [AV.one, bys, kidsA]) (by simp [escs, belL, AV.bel, bel_good _ _ (good_bys _), bel_good _ _ (good_kids _)]), ld_agg (l := 2) (z := 5) rfl rfl, Option.bind_some]
          exact endB_frz (frz_dark _ _ _ _ _) (good_tr _)
        | false =>
          simp -implicitDefEqProofs only [Bool.false_eq_true, ld_pr4, ld_tr4, ld_tr5, sl, sr, cl, cr, litD_kids2, ZS, ZT, Nat.reduceAdd]
          rw [sto_fld (l := 3) rfl (by simp) rfl rfl, escs_kids]
          simp -implicitDefEqProofs only [ZS, ZT, Nat.reduceAdd]
          rw [ld_agg (l := 3) (z := 5) rfl rfl, Option.bind_some, sto_zt (b := 2) rfl rfl rfl (by simp [AV.one, bys, kidsA]) (by simp [escs, belL, AV.bel, bel_good _ _ (good_bys _), bel_good _ _ (good_kids _)]), ld_agg (l := 2) (z := 5) rfl rfl, Option.bind_some]
          exact endB_frz (frz_dark _ _ _ _ _) (good_tr _)
end Go.Pm

/- Package proof and the document's Prove. -/
namespace Go.Pm
open Go.Proofs
set_option linter.unusedVariables false
set_option linter.unusedSimpArgs false
def proveF (w : Int) (t : Tre) (s : Spn) : Int × Tre := if wOk w = false then (1, Tre.nil) else if isF t = false then (3, Tre.nil) else (0, showF w s t)
def resP (p : Int × Tre) : AV := .tup [p.2.av, errA p.1]
@[simp] theorem good_resP (p : Int × Tre) : (resP p).good = true := by simp [resP, AV.good, goodL]
theorem is_gd {w : Int} (hw : wOk w = true) {t : Tre} (ht : t.ok) (h : isF t = true) : Gd w t ∧ fullF t = true := by
  unfold isF at h
  simp only [Bool.and_eq_true, decide_eq_true_eq] at h
  have hf := check_formed h.1
  have hd : deepF t 64 = false := by
    cases hx : deepF t 64 with
    | false => rfl
    | true => have := h.1; simp [checkF, hx] at this
  exact ⟨full_gd hw t ht hf h.2.1 hd, h.2.1⟩
theorem fill_prA {β : Type} (w : Int) (s : Spn) (K : List AV → Option β) : (fillB (AV.cells (.agg [(.int .i64 0), .nils, .nils, (.bool false)])) [(0, 1, .int .i64 w), (1, 3, s.av)]).bind K = K [.int .i64 w, bys s.a, bys s.b, .bool s.o] := by
  simp [fillB, AV.cells, AV.isBad, bys, Spn.av]
theorem endP (n : Int) (hn : n ≠ 0) (H : List AObj) (E : List Nat) : endB false false 0 (.tup [.agg [(.int .i64 0), .nils, .nils, .nils, .nils], .ifc t_api_Code (.int .i64 n)]) H E = some (resP (n, Tre.nil), [], []) := by
  refine endB_frz (u := resP (n, Tre.nil)) ?_ (good_resP _)
  have e : errA n = .ifc t_api_Code (.int .i64 n) := errA_ne hn
  rw [resP, e]
  exact frz_tup (frzL_cons (frz_nil0 _) (frzL_cons rfl rfl))
theorem Prove_ok (w : Int) (s : Spn) (t : Tre) (ht : t.ok) (hn : (nodesF t).length ≤ 2^40) : EV C n_proof_Prove [.int .i64 w, t.av, s.av] [] = some (resP (proveF w t s), [], []) := by
  refine proof_Prove_of ?_
  simp -implicitDefEqProofs only [new_sp, new_z, ZS, ZT, Nat.reduceAdd]
  unfold proveF
  have bad : ∀ (n : Int), n ≠ 0 → ∀ (H : List AObj) (E : List Nat), H[2]? = some (.row 5 [.agg [(.int .i64 0), .nils, .nils, .nils, .nils]]) → (fillB (AV.cells (.agg [(.int .i64 0), .nils, .nils, .nils, .nils])) []).bind (fun c5 =>
      stoK 5 (.ptr 2 1 0 0) (.agg c5) H fun H6 E6 => (loadA true 5 (.ptr 2 1 0 0) H6).bind fun a7 => endB false false 0 (.tup [a7, (.ifc t_api_Code (.int .i64 n))]) H6 (E6 ++ E)) = some (resP (n, Tre.nil), [], []) := fun n hn H E h => by
    have h2 : 2 < H.length := (List.getElem?_eq_some_iff.1 h).1
    rw [fill_nil, sto_zt (b := 2) h rfl rfl rfl rfl, ld_agg (l := 2) (z := 5) (List.getElem?_set_self h2) rfl]
    exact endP n hn _ _
  by_cases h1 : w < 1
  · have hw : wOk w = false := by simp [wOk]; omega
    rw [if_pos h1, if_pos hw]
    exact bad 1 (by decide) _ _ rfl
  · rw [if_neg h1]
    by_cases h2 : 32 < w
    · have hw : wOk w = false := by simp [wOk]; omega
      rw [if_pos h2, if_pos hw]
      exact bad 1 (by decide) _ _ rfl
    · have hw : wOk w = true := by simp [wOk]; omega
      rw [if_neg h2, if_neg (by simp [hw]), callK_ok (by simp) (avlIs_ok t ht hn)]
      cases hi : isF t with
      | false =>
        simp -implicitDefEqProofs only [ZS, ZT, Nat.reduceAdd]
        exact bad 3 (by decide) _ _ rfl
      | true =>
        obtain ⟨gd, hfl⟩ := is_gd hw ht hi
        simp -implicitDefEqProofs only [ld_sp1, fill_prA, Bool.true_eq_false, ZS, ZT, Nat.reduceAdd]
        have ep : AV.agg [.int .i64 w, bys s.a, bys s.b, .bool s.o] = prA w s := rfl
        rw [ep, callK_ok (args := [prA w s, t.av]) (by simp [goodL]) (show_ok w s hw t gd hfl), sto_t (b := 2) rfl rfl]
        simp -implicitDefEqProofs only [ZS, ZT, Nat.reduceAdd]
        exact endB_good (v := resP (0, showF w s t)) (good_resP _)
/-! ### the document's -/
theorem fill_in {β : Type} (a b : Bs) (x y : Tre) (K : List AV → Option β) : (fillB (AV.cells (.agg [(.int .i64 0), .nils, .nils, .nils, .nils])) [(0, 1, (.int .i64 1)), (1, 1, bys a), (2, 1, bys b), (4, 1, kidsA [x, y])]).bind K = K [.int .i64 1, bys a, bys b, .nils, kidsA [x, y]] := by
  simp [fillB, AV.cells, AV.isBad, bys, kidsA]
theorem fill_dark {β : Type} (a b : Bs) (x y : Tre) (K : List AV → Option β) : (fillB (AV.cells (.agg [(.int .i64 0), .nils, .nils, .nils, .nils])) [(0, 1, (.int .i64 2)), (1, 1, bys a), (3, 1, bys b), (4, 1, kidsA [x, y])]).bind K = K [.int .i64 2, bys a, .nils, bys b, kidsA [x, y]] := by
  simp [fillB, AV.cells, AV.isBad, bys, kidsA]
theorem rcut_ok (w : Int) (hw : wOk w = true) (t : Tre) (h : Gd w t) (hfl : fullF t = true) : EV C n_ref07_cut [tabF, .int .i64 w, t.av] [] = some ((cutT w t).av, [], []) := by
  refine ref07_cut_of ?_
  simp -implicitDefEqProofs only [new_tab, new_z, ZS, ZT, Nat.reduceAdd]
  unfold cutT
  rcases full_kind h.formed hfl with ⟨h0, hk⟩ | ⟨h1, l0, r0, hk⟩
  · rw [if_pos h0, hk, if_pos (show ([] : List Tre).length = 0 from rfl), fill_nil, sto_zt (b := 2) rfl rfl rfl rfl rfl, ld_agg (l := 2) (z := 5) rfl rfl]
    exact endB_frz (frz_nil0 _) (good_tr _)
  · rw [if_neg (by omega), hk, if_neg (by simp)]
    simp -implicitDefEqProofs only [ld_tab0, ZS, ZT, Nat.reduceAdd]
    rw [callK_ok (by simp [good_tab]) (rDigest_gd hw h)]
    simp -implicitDefEqProofs only [resR, ZS, ZT, Nat.reduceAdd]
    rw [fill_cut, sto_zt (b := 2) rfl rfl rfl (by simp [AV.one, bys]) (by simp [escs, belL, AV.bel, bel_good _ _ (good_bys _)]), ld_agg (l := 2) (z := 5) rfl rfl]
    exact endB_frz (frz_cut0 _ _) (good_tr _)
theorem rProve_ok (w : Int) (s : Spn) (hw : wOk w = true) (t : Tre) : Gd w t → fullF t = true → EV C n_ref07_Prove [tabF, .int .i64 w, t.av, s.av] [] = some ((showF w s t).av, [], []) := by
  induction t using Tre.ind with
  | h t ih =>
    intro hg hfl
    refine ref07_Prove_of ?_
    have l2 : ∀ (o0 o1 : AObj) (T : List AObj), loadA true 3 (.ptr 2 1 0 0) (o0 :: o1 :: .row 3 [s.av] :: T) = some s.av := fun o0 o1 T => Eq.trans rfl rfl
    have l2a : ∀ (o0 o1 : AObj) (T : List AObj), loadA false 1 (.ptr 2 1 0 0) (o0 :: o1 :: .row 3 [s.av] :: T) = some (bys s.a) := fun o0 o1 T => Eq.trans rfl rfl
    simp -implicitDefEqProofs only [new_tab, new_sp, new_z, ZS, ZT, Nat.reduceAdd]
    rcases full_kind hg.formed hfl with ⟨h0, hk⟩ | ⟨h1, l0, r0, hk0⟩
    · rw [show_leaf w s hk, if_pos h0, fill_nil, sto_zt (b := 3) rfl rfl rfl rfl rfl, ld_agg (l := 3) (z := 5) rfl rfl]
      exact endB_frz (frz_nil0 _) (good_tr _)
    · obtain ⟨l, r, nd⟩ := hg.node (by omega) (by omega)
      have hk := nd.kids
      have hkey := nd.key
      have hval := nd.value
      have hl : l ∈ t.kids := by rw [hk]; simp
      have hr : r ∈ t.kids := by rw [hk]; simp
      have hfa : fullF l = true ∧ fullF r = true := by
        rw [full_eq, Bool.and_eq_true, List.all_eq_true] at hfl
        exact ⟨hfl.2 l hl, hfl.2 r hr⟩
      have x0 : ∀ H, ixA 5 (kidsA t.kids) (.int .i64 0) H = some (.ip l.av.cells) := fun H => ixA_kids (i := 0) (by rw [hk]; rfl)
      have x1 : ∀ H, ixA 5 (kidsA t.kids) (.int .i64 1) H = some (.ip r.av.cells) := fun H => ixA_kids (i := 1) (by rw [hk]; rfl)
      have sl : ∀ H, callD (EV C) n_ref07_Prove [tabF, .int .i64 w, l.av, s.av] H = some (showF w s l).av := fun H => callD_ok (by simp [goodL, AV.good, good_tab]) (ih l hl nd.gl hfa.1)
      have sr : ∀ H, callD (EV C) n_ref07_Prove [tabF, .int .i64 w, r.av, s.av] H = some (showF w s r).av := fun H => callD_ok (by simp [goodL, AV.good, good_tab]) (ih r hr nd.gr hfa.2)
      have cl : ∀ H, callD (EV C) n_ref07_cut [tabF, .int .i64 w, l.av] H = some (cutT w l).av := fun H => callD_ok (by simp [goodL, AV.good, good_tab]) (rcut_ok w hw l nd.gl hfa.1)
      have cr : ∀ H, callD (EV C) n_ref07_cut [tabF, .int .i64 w, r.av] H = some (cutT w r).av := fun H => callD_ok (by simp [goodL, AV.good, good_tab]) (rcut_ok w hw r nd.gr hfa.2)
      have dv : ∀ H, callD (EV C) n_ref03_Value [bys t.value] H = some (bys (0 :: t.value)) := fun H => callD_ok (by simp [goodL]) (rValue_ok t.value (by omega))
      have dof : ∀ H, callD (EV C) n_ref03_Of [tabF, .int .i64 w, bys (0 :: t.value)] H = some (bys (ofF w (0 :: t.value))) := fun H => callD_ok (by simp [goodL, AV.good, good_tab]) (rOf_ok w hw _ (by simp; omega))
      rw [if_neg (by omega)]
      simp -implicitDefEqProofs only [l2, ZS, ZT, Nat.reduceAdd]
      rw [callK_ok (by simp) (rIn_ok s t.key), show_two w s hk]
      cases hi : inF s t.key with
      | true =>
        simp -implicitDefEqProofs only [l2, ld_tab0, x0, x1, sl, sr, litD_kids2, fill_in, ZS, ZT, Nat.reduceAdd]
        rw [sto_zt (b := 3) rfl rfl rfl (by simp [AV.one, bys, kidsA]) (by simp [escs, belL, AV.bel, bel_good _ _ (good_bys _), bel_good _ _ (good_kids _)]), ld_agg (l := 3) (z := 5) rfl rfl, Option.bind_some]
        exact endB_frz (frz_in _ _ _ _ _) (good_tr _)
      | false =>
        simp -implicitDefEqProofs only [Bool.false_eq_true, l2a, ld_tab0, dv, dof, lss_str, ZS, ZT, Nat.reduceAdd]
        cases hb : ltB t.key s.a with
        | true =>
          simp -implicitDefEqProofs only [l2, ld_tab0, x0, x1, sl, sr, cl, cr, litD_kids2, fill_dark, ZS, ZT, Nat.reduceAdd]
          rw [sto_zt (b := 3) rfl rfl rfl (by simp [AV.one, bys, kidsA]) (by simp [escs, belL, AV.bel, bel_good _ _ (good_bys _), bel_good _ _ (good_kids _)]), ld_agg (l := 3) (z := 5) rfl rfl, Option.bind_some]
          exact endB_frz (frz_dark _ _ _ _ _) (good_tr _)
        | false =>
          simp -implicitDefEqProofs only [Bool.false_eq_true, l2, ld_tab0, x0, x1, sl, sr, cl, cr, litD_kids2, fill_dark, ZS, ZT, Nat.reduceAdd]
          rw [sto_zt (b := 3) rfl rfl rfl (by simp [AV.one, bys, kidsA]) (by simp [escs, belL, AV.bel, bel_good _ _ (good_bys _), bel_good _ _ (good_kids _)]), ld_agg (l := 3) (z := 5) rfl rfl, Option.bind_some]
          exact endB_frz (frz_dark _ _ _ _ _) (good_tr _)
end Go.Pm
