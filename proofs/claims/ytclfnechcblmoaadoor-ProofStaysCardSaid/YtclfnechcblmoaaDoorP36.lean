/- A part of the proof: what the functions of the program answer, as plain lists and numbers. -/
import Derived.Test.YtclfnechcblmoaaDoorP9
import Derived.Test.YtclfnechcblmoaaDoorP31
import Derived.Test.YtclfnechcblmoaaDoorP32
import Derived.Test.YtclfnechcblmoaaDoorP34
import Derived.Test.YtclfnechcblmoaaDoorP35
namespace Go.Pm
open Go.Proofs
set_option linter.unusedVariables false
set_option linter.unusedSimpArgs false
def cutT (w : Int) (t : Tre) : Tre := if t.kids.length = 0 then Tre.nil else Tre.cut (dg w t)
mutual
def showF (w : Int) (s : Spn) : Tre → Tre
  | .mk k a b c ks => match ks, showL w s ks with
    | l :: r :: _, x :: y :: _ =>
      if inF s a = true then .mk 1 a b [] [x, y]
      else if ltB a s.a = true then .mk 2 a [] (ofF w (0 :: b)) [cutT w l, y]
      else .mk 2 a [] (ofF w (0 :: b)) [x, cutT w r]
    | _, _ => Tre.nil
def showL (w : Int) (s : Spn) : List Tre → List Tre
  | [] => []
  | t :: ts => showF w s t :: showL w s ts
end
theorem show_leaf (w : Int) (s : Spn) {t : Tre} (h : t.kids = []) : showF w s t = Tre.nil := by
  cases t with | mk k a b c ks => simp only [Tre.kids] at h; subst h; simp only [showF, showL]
theorem show_two (w : Int) (s : Spn) {t l r : Tre} (h : t.kids = [l, r]) : showF w s t = if inF s t.key = true then .mk 1 t.key t.value [] [showF w s l, showF w s r]
      else if ltB t.key s.a = true then .mk 2 t.key [] (ofF w (0 :: t.value)) [cutT w l, showF w s r]
      else .mk 2 t.key [] (ofF w (0 :: t.value)) [showF w s l, cutT w r] := by
  cases t with | mk k a b c ks => simp only [Tre.kids] at h; subst h; simp only [showF, showL]; rfl
/-- a full tree has a digest -/
theorem full_gd {w : Int} (hw : wOk w = true) (t : Tre) : t.ok → formedF t = true → fullF t = true → deepF t 64 = false → Gd w t := by
  induction t using Tre.ind with
  | h t ih =>
    intro ht hf hfl hd
    refine ⟨ht, hf, hd, ?_⟩
    have hks := ((ok_eq t).1 ht).2.2.2.2
    rw [full_eq, Bool.and_eq_true, List.all_eq_true] at hfl
    have hk2 := hfl.1
    simp only [Bool.not_eq_true', Bool.or_eq_false_iff, decide_eq_false_iff_not] at hk2
    have hdk : ∀ k ∈ t.kids, deepF k 64 = false := fun k hk => by
      rw [deepF_eq, Bool.or_eq_false_iff, List.any_eq_false] at hd
      have := hd.2 k hk
      simp only [Bool.not_eq_true] at this
      exact deep_mono k (by omega) this
    by_cases h0 : t.kind = 0
    · rw [told_none w t h0]; rfl
    · obtain ⟨hkk, hka, hva, l, r, hk⟩ := formed_node hf h0 hk2.2
      have hl : l ∈ t.kids := by rw [hk]; simp
      have hr : r ∈ t.kids := by rw [hk]; simp
      have gl := ih l hl (hks l hl) (formed_kids hf l hl) (hfl.2 l hl) (hdk l hl)
      have gr := ih r hr (hks r hr) (formed_kids hf r hr) (hfl.2 r hr) (hdk r hr)
      have h1 : t.kind = 1 := hkk.resolve_right hk2.1
      have hpv : ((pv w t).length : Int) = w := by
        unfold pv; rw [if_pos h1]; exact ofF_len hw _
      rw [told_node w t l r h0 hk2.2 hk, if_pos hpv, gl.dgs, gr.dgs]
      rfl
theorem full_kind {t : Tre} (hf : formedF t = true) (hfl : fullF t = true) : (t.kind = 0 ∧ t.kids = []) ∨ (t.kind = 1 ∧ ∃ l r, t.kids = [l, r]) := by
  rw [full_eq, Bool.and_eq_true] at hfl
  have hk2 := hfl.1
  simp only [Bool.not_eq_true', Bool.or_eq_false_iff, decide_eq_false_iff_not] at hk2
  by_cases h0 : t.kind = 0
  · exact .inl ⟨h0, formed_leaf hf (.inl h0)⟩
  · obtain ⟨hkk, _, _, l, r, hk⟩ := formed_node hf h0 hk2.2
    exact .inr ⟨hkk.resolve_right hk2.1, l, r, hk⟩
def prA (w : Int) (s : Spn) : AV := .agg [.int .i64 w, bys s.a, bys s.b, .bool s.o]
@[simp] theorem good_prA (w : Int) (s : Spn) : (prA w s).good = true := by simp [prA, AV.good, goodL]
theorem new_prA {β : Type} (w : Int) (s : Spn) (H : List AObj) (K : AV → List AObj → List Nat → Option β) : newK (prA w s) H K = K (.ptr H.length 1 0 0) (H ++ [.row 4 [prA w s]]) [] := new_agg (by simp) rfl H K
theorem ld_prw (w : Int) (s : Spn) (T : List AObj) : loadA false 1 (.ptr 0 1 0 0) (.row 4 [prA w s] :: T) = some (.int .i64 w) := Eq.trans rfl rfl
theorem ld_prs (w : Int) (s : Spn) (T : List AObj) : loadA true 3 (.ptr 0 1 0 1) (.row 4 [prA w s] :: T) = some s.av := Eq.trans rfl rfl
theorem ld_pra (w : Int) (s : Spn) (T : List AObj) : loadA false 1 (.ptr 0 1 0 1) (.row 4 [prA w s] :: T) = some (bys s.a) := Eq.trans rfl rfl
theorem ld_pr4 (w : Int) (s : Spn) (T : List AObj) : loadA true 4 (.ptr 0 1 0 0) (.row 4 [prA w s] :: T) = some (prA w s) := Eq.trans rfl rfl
theorem sto_zt {β : Type} {H : List AObj} {b : Nat} {cs ds : List AV} {K : List AObj → List Nat → Option β} (h : H[b]? = some (.row 5 [.agg cs])) (hc : cs.length = 5) (hd : ds.length = 5) (h1 : ds.all AV.one = true) (he : escs b ds = []) :
    stoK 5 (.ptr b 1 0 0) (.agg ds) H K = K (H.set b (.row 5 [.agg ds])) [] := by
  rw [sto_agg h hc hd h1, he]
theorem pcut_ok (w : Int) (s : Spn) (hw : wOk w = true) (t : Tre) (h : Gd w t) : EV C n_proof_prover_cut [prA w s, t.av] [] = some ((cutT w t).av, [], []) := by
  refine proof_prover_cut_of ?_
  simp -implicitDefEqProofs only [new_prA, new_z, ZS, ZT, Nat.reduceAdd]
  unfold cutT
  by_cases h0 : t.kids.length = 0
  · have h0' : (t.kids.length : Int) = 0 := by omega
    rw [if_pos h0', if_pos h0, fill_nil, sto_zt (b := 2) rfl rfl rfl rfl rfl, ld_agg (l := 2) (z := 5) rfl rfl]
    exact endB_frz (frz_nil0 _) (good_tr _)
  · have h0' : ¬ (t.kids.length : Int) = 0 := by omega
    rw [if_neg h0', if_neg h0]
    have D := Digest_ok w t h.ok
    rw [h.dig hw] at D
    simp -implicitDefEqProofs only [ld_prw, ZS, ZT, Nat.reduceAdd]
    rw [callK_ok (by simp) D]
    have e0 : errA 0 = .nili := rfl
    simp -implicitDefEqProofs only [resD, neqE0, decide_true, ZS, ZT, Nat.reduceAdd]
    rw [fill_cut, sto_zt (b := 2) rfl rfl rfl (by simp [AV.one, bys]) (by simp [escs, belL, AV.bel, bel_good _ _ (good_bys _)]), ld_agg (l := 2) (z := 5) rfl rfl]
    exact endB_frz (frz_cut0 _ _) (good_tr _)
theorem drawK_eq {α β : Type} (a : α) (x : Option β) : drawK (a = a) x = x := if_pos rfl
theorem drawK_T {β : Type} (x : Option β) : drawK True x = x := if_pos trivial
theorem siz_tr {β : Type} (t : Tre) (x : Option β) : sizK 5 t.av x = x := by unfold sizK; rw [if_pos (by rw [cells_tr]; rfl)]
theorem ld_tr4 (t : Tre) (o0 o1 o2 o3 : AObj) (T : List AObj) : loadA true 5 (.ptr 4 1 0 0) (o0 :: o1 :: o2 :: o3 :: .row 5 [t.av] :: T) = some t.av := ld_box rfl
theorem ld_tr5 (t : Tre) (o0 o1 o2 o3 o4 : AObj) (T : List AObj) : loadA true 5 (.ptr 5 1 0 0) (o0 :: o1 :: o2 :: o3 :: o4 :: .row 5 [t.av] :: T) = some t.av := ld_box rfl
theorem fill_k {β : Type} (a : Bs) (K : List AV → Option β) : (fillB (AV.cells (.agg [(.int .i64 0), .nils, .nils, .nils, .nils])) [(0, 1, (.int .i64 1)), (1, 1, bys a)]).bind K = K [.int .i64 1, bys a, .nils, .nils, .nils] := by
  simp [fillB, AV.cells, AV.isBad, bys]
theorem litD_kids2 (x y : Tre) (H : List AObj) : litD 5 2 (.agg [(.int .i64 0), .nils, .nils, .nils, .nils]) [(0, x.av), (1, y.av)] H = some (kidsA [x, y]) := by
  have e1 : (killsL [x.av, y.av]).isEmpty = true := by simp [killsL, kills_good _ (good_tr x), kills_good _ (good_tr y)]
  have e2 : frzL H [x.av, y.av] = some [x.av, y.av] := frzL_cons (frz_good _ _ (good_tr x)) (frzL_cons (frz_good _ _ (good_tr y)) rfl)
  have e3 : ∀ (t : Tre), t.av.cells.length = 5 ∧ t.av.cells.all AV.one = true := fun t => by rw [cells_tr]; exact ⟨rfl, rfl⟩
  unfold litD
  simp only [List.map_cons, List.map_nil]
  rw [if_pos e1, e2, Option.bind_some, frz_nil0, Option.bind_some]
  simp only [List.zip_cons_cons, List.zip_nil_right, setS, (e3 _).1, (e3 _).2, List.length_replicate, List.length_set, List.replicate, List.set_cons_zero, List.set_cons_succ, List.length_cons, List.length_nil]
  rfl
theorem escs_bys (l : Nat) (b : Bs) : escs l [bys b] = [] := escs_good (by simp [goodL])
theorem escs_kids (l : Nat) (b : List Tre) : escs l [kidsA b] = [] := escs_good (by simp [goodL])
theorem escs_int (l : Nat) (b : Int) : escs l [.int .i64 b] = [] := escs_good rfl
theorem frz_in (k v : Bs) (x y : Tre) (H : List AObj) : frz H (.agg [.int .i64 1, bys k, bys v, .nils, kidsA [x, y]]) = some (Tre.mk 1 k v [] [x, y]).av :=
  (frz_agg (us := [.int .i64 1, bys k, bys v, .lst [], kidsA [x, y]]) (frzL_cons rfl (frzL_cons (frz_good _ _ (good_bys _)) (frzL_cons (frz_good _ _ (good_bys _)) (frzL_cons rfl (frzL_cons (frz_good _ _ (good_kids _)) rfl)))))).trans (by rw [av_eq]; rfl)
theorem frz_dark (k d : Bs) (x y : Tre) (H : List AObj) : frz H (.agg [.int .i64 2, bys k, .nils, bys d, kidsA [x, y]]) = some (Tre.mk 2 k [] d [x, y]).av :=
  (frz_agg (us := [.int .i64 2, bys k, .lst [], bys d, kidsA [x, y]]) (frzL_cons rfl (frzL_cons (frz_good _ _ (good_bys _)) (frzL_cons rfl (frzL_cons (frz_good _ _ (good_bys _)) (frzL_cons (frz_good _ _ (good_kids _)) rfl)))))).trans (by rw [av_eq]; rfl)
theorem show_ok (w : Int) (s : Spn) (hw : wOk w = true) (t : Tre) : Gd w t → fullF t = true → EV C n_proof_prover_show [prA w s, t.av] [] = some ((showF w s t).av, [], []) := by
  induction t using Tre.ind with
  | h t ih =>
    intro hg hfl
    refine proof_prover_show_of ?_
    simp -implicitDefEqProofs only [new_prA, new_z, ZS, ZT, Nat.reduceAdd]
    rcases full_kind hg.formed hfl with ⟨h0, hk⟩ | ⟨h1, l0, r0, hk0⟩
    · rw [show_leaf w s hk, hk]
      simp -implicitDefEqProofs only [List.length_nil, Int.natCast_zero, if_true]
      rw [fill_nil, sto_zt (b := 2) rfl rfl rfl rfl rfl, ld_agg (l := 2) (z := 5) rfl rfl]
      exact endB_frz (frz_nil0 _) (good_tr _)
    · obtain ⟨l, r, nd⟩ := hg.node (by omega) (by omega)
      have hk := nd.kids
      have hkey := nd.key
      have hval := nd.value
      have hl : l ∈ t.kids := by rw [hk]; simp
      have hr : r ∈ t.kids := by rw [hk]; simp
      have hfa : fullF l = true ∧ fullF r = true := by
        rw [full_eq, Bool.and_eq_true, List.all_eq_true] at hfl
        exact ⟨hfl.2 l hl, hfl.2 r hr⟩
      have x0 : ∀ H, ixA 5 (kidsA t.kids) (.int .i64 0) H = some (.ip l.av.cells) := fun H => ixA_kids (i := 0) (by rw [hk]; rfl)
      have x1 : ∀ H, ixA 5 (kidsA t.kids) (.int .i64 1) H = some (.ip r.av.cells) := fun H => ixA_kids (i := 1) (by rw [hk]; rfl)
      have e0 : ¬ ((t.kids.length : Int) = 0) := by rw [hk]; simp
      have sl : ∀ H, callD (EV C) n_proof_prover_show [prA w s, l.av] H = some (showF w s l).av := fun H => callD_ok (by simp [goodL]) (ih l hl nd.gl hfa.1)
      have sr : ∀ H, callD (EV C) n_proof_prover_show [prA w s, r.av] H = some (showF w s r).av := fun H => callD_ok (by simp [goodL]) (ih r hr nd.gr hfa.2)
      have cl : ∀ H, callD (EV C) n_proof_prover_cut [prA w s, l.av] H = some (cutT w l).av := fun H => callD_ok (by simp [goodL]) (pcut_ok w s hw l nd.gl)
      have cr : ∀ H, callD (EV C) n_proof_prover_cut [prA w s, r.av] H = some (cutT w r).av := fun H => callD_ok (by simp [goodL]) (pcut_ok w s hw r nd.gr)
      have dv : ∀ H, callD (EV C) n_digest_Value [bys t.value] H = some (bys (0 :: t.value)) := fun H => callD_ok (by simp [goodL]) (Value_ok t.value (by omega))
      have dof : ∀ H, callD (EV C) n_digest_Of [.int .i64 w, bys (0 :: t.value)] H = some (.tup [bys (ofF w (0 :: t.value)), .nili]) := fun H => callD_ok (by simp [goodL, AV.good]) (Of_ok w hw _ (by simp; omega))
      rw [if_neg e0, callK_ok (by simp) (Clone_byte_ok t.key (by omega)), fill_k]
      simp -implicitDefEqProofs only [ZS, ZT, Nat.reduceAdd]
      rw [sto_zt (b := 3) rfl rfl rfl (by simp [AV.one, bys]) (by simp [escs, belL, AV.bel, bel_good _ _ (good_bys _)])]
      simp -implicitDefEqProofs only [x0, x1, siz_tr, drawK_eq, drawK_T, ld_prs, InK, ZS, ZT, Nat.reduceAdd]
      rw [show_two w s hk]
      cases hi : inF s t.key with
      | true =>
        simp -implicitDefEqProofs only [ZS, ZT, Nat.reduceAdd]
        rw [callK_ok (by simp) (Clone_byte_ok t.value (by omega)), sto_fld (l := 3) rfl (by simp) rfl rfl, escs_bys]
        simp -implicitDefEqProofs only [ld_pr4, ld_tr4, ld_tr5, sl, sr, litD_kids2, ZS, ZT, Nat.reduceAdd]
        rw [sto_fld (l := 3) rfl (by simp) rfl rfl, escs_kids]
        simp -implicitDefEqProofs only [ZS, ZT, Nat.reduceAdd]
        rw [ld_agg (l := 3) (z := 5) rfl rfl, Option.bind_some, sto_zt (b := 2) rfl rfl rfl (by simp [AV.one, bys, kidsA]) (by simp [escs, belL, AV.bel, bel_good _ _ (good_bys _), bel_good _ _ (good_kids _)]), ld_agg (l := 2) (z := 5) rfl rfl, Option.bind_some]
        exact endB_frz (frz_in _ _ _ _ _) (good_tr _)
      | false =>
        simp -implicitDefEqProofs only [Bool.false_eq_true, ZS, ZT, Nat.reduceAdd]
        rw [sto_fld (l := 3) rfl (by simp) rfl rfl, escs_int]
        simp -implicitDefEqProofs only [ld_prw, dv, dof, neq_nil1, ZS, ZT, Nat.reduceAdd]
        rw [sto_fld (l := 3) rfl (by simp) rfl rfl, escs_bys]
        simp -implicitDefEqProofs only [ld_pra, CompareK, cmp_lt, ZS, ZT, Nat.reduceAdd]
        cases hb : ltB t.key s.a with
        | true =>
          simp -implicitDefEqProofs only [ld_pr4, ld_tr4, ld_tr5, sl, sr, cl, cr, litD_kids2, ZS, ZT, Nat.reduceAdd]
          rw [sto_fld (l := 3) rfl (by simp) rfl rfl, escs_kids]
          simp -implicitDefEqProofs only [ZS, ZT, Nat.reduceAdd]
          rw [ld_agg (l := 3) (z := 5) rfl rfl, Option.bind_some, sto_zt (b := 2) rfl rfl rfl (by simp [AV.one, bys, kidsA]) (by simp [escs, belL, AV.bel, bel_good _ _ (good_bys _), bel_good _ _ (good_kids _)]), ld_agg (l := 2) (z := 5) rfl rfl, Option.bind_some]
          exact endB_frz (frz_dark _ _ _ _ _) (good_tr _)
        | false =>
          simp -implicitDefEqProofs only [Bool.false_eq_true, ld_pr4, ld_tr4, ld_tr5, sl, sr, cl, cr, litD_kids2, ZS, ZT, Nat.reduceAdd]
          rw [sto_fld (l := 3) rfl (by simp) rfl rfl, escs_kids]
          simp -implicitDefEqProofs only [ZS, ZT, Nat.reduceAdd]
          rw [ld_agg (l := 3) (z := 5) rfl rfl, Option.bind_some, sto_zt (b := 2) rfl rfl rfl (by simp [AV.one, bys, kidsA]) (by simp [escs, belL, AV.bel, bel_good _ _ (good_bys _), bel_good _ _ (good_kids _)]), ld_agg (l := 2) (z := 5) rfl rfl, Option.bind_some]
          exact endB_frz (frz_dark _ _ _ _ _) (good_tr _)
end Go.Pm
namespace Go.Pm
open Go.Proofs
set_option linter.unusedVariables false
set_option linter.unusedSimpArgs false
def proveF (w : Int) (t : Tre) (s : Spn) : Int × Tre := if wOk w = false then (1, Tre.nil) else if isF t = false then (3, Tre.nil) else (0, showF w s t)
def resP (p : Int × Tre) : AV := .tup [p.2.av, errA p.1]
@[simp] theorem good_resP (p : Int × Tre) : (resP p).good = true := by simp [resP, AV.good, goodL]
theorem is_gd {w : Int} (hw : wOk w = true) {t : Tre} (ht : t.ok) (h : isF t = true) : Gd w t ∧ fullF t = true := by
  unfold isF at h
  simp only [Bool.and_eq_true, decide_eq_true_eq] at h
  have hf := check_formed h.1
  have hd : deepF t 64 = false := by
    cases hx : deepF t 64 with
    | false => rfl
    | true => have := h.1; simp [checkF, hx] at this
  exact ⟨full_gd hw t ht hf h.2.1 hd, h.2.1⟩
theorem fill_prA {β : Type} (w : Int) (s : Spn) (K : List AV → Option β) : (fillB (AV.cells (.agg [(.int .i64 0), .nils, .nils, (.bool false)])) [(0, 1, .int .i64 w), (1, 3, s.av)]).bind K = K [.int .i64 w, bys s.a, bys s.b, .bool s.o] := by
  simp [fillB, AV.cells, AV.isBad, bys, Spn.av]
theorem endP (n : Int) (hn : n ≠ 0) (H : List AObj) (E : List Nat) : endB false false 0 (.tup [.agg [(.int .i64 0), .nils, .nils, .nils, .nils], .ifc t_api_Code (.int .i64 n)]) H E = some (resP (n, Tre.nil), [], []) := by
  refine endB_frz (u := resP (n, Tre.nil)) ?_ (good_resP _)
  have e : errA n = .ifc t_api_Code (.int .i64 n) := errA_ne hn
  rw [resP, e]
  exact frz_tup (frzL_cons (frz_nil0 _) (frzL_cons rfl rfl))
theorem Prove_ok (w : Int) (s : Spn) (t : Tre) (ht : t.ok) (hn : (nodesF t).length ≤ 2^40) : EV C n_proof_Prove [.int .i64 w, t.av, s.av] [] = some (resP (proveF w t s), [], []) := by
  refine proof_Prove_of ?_
  simp -implicitDefEqProofs only [new_sp, new_z, ZS, ZT, Nat.reduceAdd]
  unfold proveF
  have bad : ∀ (n : Int), n ≠ 0 → ∀ (H : List AObj) (E : List Nat), H[2]? = some (.row 5 [.agg [(.int .i64 0), .nils, .nils, .nils, .nils]]) → (fillB (AV.cells (.agg [(.int .i64 0), .nils, .nils, .nils, .nils])) []).bind (fun c5 =>
      stoK 5 (.ptr 2 1 0 0) (.agg c5) H fun H6 E6 => (loadA true 5 (.ptr 2 1 0 0) H6).bind fun a7 => endB false false 0 (.tup [a7, (.ifc t_api_Code (.int .i64 n))]) H6 (E6 ++ E)) = some (resP (n, Tre.nil), [], []) := fun n hn H E h => by
    have h2 : 2 < H.length := (List.getElem?_eq_some_iff.1 h).1
    rw [fill_nil, sto_zt (b := 2) h rfl rfl rfl rfl, ld_agg (l := 2) (z := 5) (List.getElem?_set_self h2) rfl]
    exact endP n hn _ _
  by_cases h1 : w < 1
  · have hw : wOk w = false := by simp [wOk]; omega
    rw [if_pos h1, if_pos hw]
    exact bad 1 (by decide) _ _ rfl
  · rw [if_neg h1]
    by_cases h2 : 32 < w
    · have hw : wOk w = false := by simp [wOk]; omega
      rw [if_pos h2, if_pos hw]
      exact bad 1 (by decide) _ _ rfl
    · have hw : wOk w = true := by simp [wOk]; omega
      rw [if_neg h2, if_neg (by simp [hw]), callK_ok (by simp) (avlIs_ok t ht hn)]
      cases hi : isF t with
      | false =>
        simp -implicitDefEqProofs only [ZS, ZT, Nat.reduceAdd]
        exact bad 3 (by decide) _ _ rfl
      | true =>
        obtain ⟨gd, hfl⟩ := is_gd hw ht hi
        simp -implicitDefEqProofs only [ld_sp1, fill_prA, Bool.true_eq_false, ZS, ZT, Nat.reduceAdd]
        have ep : AV.agg [.int .i64 w, bys s.a, bys s.b, .bool s.o] = prA w s := rfl
        rw [ep, callK_ok (args := [prA w s, t.av]) (by simp [goodL]) (show_ok w s hw t gd hfl), sto_t (b := 2) rfl rfl]
        simp -implicitDefEqProofs only [ZS, ZT, Nat.reduceAdd]
        exact endB_good (v := resP (0, showF w s t)) (good_resP _)
theorem fill_in {β : Type} (a b : Bs) (x y : Tre) (K : List AV → Option β) : (fillB (AV.cells (.agg [(.int .i64 0), .nils, .nils, .nils, .nils])) [(0, 1, (.int .i64 1)), (1, 1, bys a), (2, 1, bys b), (4, 1, kidsA [x, y])]).bind K = K [.int .i64 1, bys a, bys b, .nils, kidsA [x, y]] := by
  simp [fillB, AV.cells, AV.isBad, bys, kidsA]
end Go.Pm
namespace Go.Pm
open Go.Proofs
set_option linter.unusedVariables false
set_option linter.unusedSimpArgs false
theorem callD_nil {env : Env} {g : FuncId} {args bs : List AV} {H : List AObj} {v : AV} (hk : killsL args = []) (h0 : frzL H args = some bs) (h1 : goodL bs = true) (h3 : env g bs [] = some (v, [], [])) :
    callD env g args H = some v := by
  simp [callD, h0, belL_good 0 bs h1, h3, hk]
abbrev zTre : AV := .agg [(.int .i64 0), .nils, .nils, .nils, .nils]
theorem litK_kids2 {β : Type} (x y : Tre) (H : List AObj) (K : AV → List AObj → List Nat → Option β) : litK 5 2 (.agg [(.int .i64 0), .nils, .nils, .nils, .nils]) [(0, x.av), (1, y.av)] H K = K (kidsA [x, y]) H [] := by
  have e2 : frzL H [x.av, y.av] = some [x.av, y.av] := frzL_cons (frz_good _ _ (good_tr x)) (frzL_cons (frz_good _ _ (good_tr y)) rfl)
  have e1 : killsL [x.av, y.av] = [] := by simp [killsL, kills_good _ (good_tr x), kills_good _ (good_tr y)]
  have e3 : ∀ (t : Tre), t.av.cells.length = 5 ∧ t.av.cells.all AV.one = true := fun t => by rw [cells_tr]; exact ⟨rfl, rfl⟩
  unfold litK
  simp only [List.map_cons, List.map_nil]
  rw [e2, Option.bind_some, frz_nil0, Option.bind_some, e1]
  simp only [List.zip_cons_cons, List.zip_nil_right, setS, (e3 _).1, (e3 _).2, List.length_replicate, List.length_set, List.replicate, List.set_cons_zero, List.set_cons_succ, List.length_cons, List.length_nil]
  rfl
theorem rNode5_ok (l r : Tre) (k v : Bs) : EV C n_ref05_Node [l.av, bys k, bys v, r.av] [] = some ((Tre.mk 1 k v [] [l, r]).av, [], []) := by
  refine ref05_Node_of ?_
  simp -implicitDefEqProofs only [new_z, ZS, ZT, Nat.reduceAdd]
  rw [litK_kids2, fill_in, sto_zt (b := 2) rfl rfl rfl (by simp [AV.one, bys, kidsA]) (by simp [escs, belL, AV.bel, bel_good _ _ (good_bys _), bel_good _ _ (good_kids _)]), ld_agg (l := 2) (z := 5) rfl rfl, Option.bind_some]
  exact endB_frz (frz_in _ _ _ _ _) (good_tr _)
theorem Put1_ok (k v : Bs) : EV C n_ref05_Put [Tre.nil.av, bys k, bys v] [] = some ((Tre.mk 1 k v [] [Tre.nil, Tre.nil]).av, [], []) := by
  refine ref05_Put_of ?_
  simp -implicitDefEqProofs only [new_z, ZS, ZT, Nat.reduceAdd]
  rw [if_pos (show ((Tre.nil.kids.length : Nat) : Int) = 0 from rfl), fill_nil, fill_nil]
  rw [callK_nil (bs := [Tre.nil.av, bys k, bys v, Tre.nil.av]) (by simp [killsL, kills, kills_good _ (good_bys _)]) (frzL_cons (frz_nil0 _) (frzL_cons (frz_good _ _ (good_bys _)) (frzL_cons (frz_good _ _ (good_bys _)) (frzL_cons (frz_nil0 _) rfl)))) (by simp [goodL]) (rNode5_ok _ _ k v), sto_t (b := 1) rfl rfl]
  simp -implicitDefEqProofs only [ZS, ZT, Nat.reduceAdd]
  exact endB_good (good_tr _)
def oneT : Tre := .mk 1 [97] [] [] [Tre.nil, Tre.nil]
theorem Grown1_ok : EV C n_ref05_Grown [prsA [⟨[97], []⟩]] [] = some (oneT.av, [], []) := by
  refine ref05_Grown_of ?_
  simp -implicitDefEqProofs only [new_z, ZS, ZT, Nat.reduceAdd]
  rw [fill_nil, sto_zt (b := 1) rfl rfl rfl rfl rfl]
  have ix0 : ∀ H, ixA 2 (prsA [⟨[97], []⟩]) (.int .i64 0) H = some (.ip [bys [97], bys []]) := fun H => ixA_prs (i := 0) (p := ⟨[97], []⟩) rfl
  have cp : ∀ H, callD (EV C) n_ref05_Put [zTre, bys [97], bys []] H = some oneT.av := fun H => callD_nil (bs := [Tre.nil.av, bys [97], bys []]) (by simp [killsL, kills, kills_good _ (good_bys _)]) (frzL_cons (frz_nil0 _) (frzL_cons (frz_good _ _ (good_bys _)) (frzL_cons (frz_good _ _ (good_bys _)) rfl))) (by simp [goodL]) (Put1_ok _ _)
  have lz1 : ∀ (o0 : AObj) (T : List AObj), loadA true 5 (.ptr 1 1 0 0) (o0 :: .row 5 [zTre] :: T) = some zTre := fun o0 T => Eq.trans rfl rfl
  refine ref05_Grown_J3_of ?_
  simp -implicitDefEqProofs only [lenV_prs, ix0, cp, lz1, show (((1 : Nat) : Int)) = 1 from rfl, show ((0 : Int) < 1) from by decide, show ((0 : Int) < 60) from by decide, show ((1 : Int) ≤ 80) from by decide, show (((0 : Nat) : Int) ≤ 1024) from by decide, add_int, show IntKind.i64.wrap (0 + 1) = 1 from rfl, ZS, ZT, Nat.reduceAdd]
  rw [sto_t (b := 1) rfl rfl]
  refine ref05_Grown_J3_of ?_
  simp -implicitDefEqProofs only [lenV_prs, show (((1 : Nat) : Int)) = 1 from rfl, show ¬ ((1 : Int) < 1) from by decide, ZS, ZT, Nat.reduceAdd]
  rw [sto_t (b := 0) rfl rfl]
  simp -implicitDefEqProofs only [ZS, ZT, Nat.reduceAdd]
  exact endB_good (good_tr _)
theorem sameT_self (t : Tre) : t.ok → EV C n_ref04_Same [t.av, t.av] [] = some (.bool true, [], []) := by
  induction t using Tre.ind with
  | h t ih =>
    intro ht
    obtain ⟨_, _, _, hk, hks⟩ := (ok_eq t).1 ht
    have loop : ∀ (m i : Nat) (E : List Nat), i + m = t.kids.length → ref04_Same_J4 0 (.ptr 0 1 0 0) (.ptr 1 1 0 0) (.int .i64 (i : Int)) [.row 5 [t.av], .row 5 [t.av]] E = some (.bool true, [], []) := by
      intro m
      induction m with
      | zero =>
        intro i E h
        refine ref04_Same_J4_of ?_
        have e1 : ¬ ((i : Int) < (t.kids.length : Int)) := by omega
        simp -implicitDefEqProofs only [e1, ZS, ZT, Nat.reduceAdd]
        exact endB_good rfl
      | succ m ihm =>
        intro i E h
        refine ref04_Same_J4_of ?_
        have hi : i < t.kids.length := by omega
        have e1 : ((i : Int) < (t.kids.length : Int)) := by omega
        have e3 : IntKind.i64.wrap ((i : Int) + 1) = ((i + 1 : Nat) : Int) := w64 (by omega) (by omega)
        have cs : ∀ H, callD (EV C) n_ref04_Same [t.kids[i].av, t.kids[i].av] H = some (.bool true) := fun H => callD_ok (by simp [goodL]) (ih _ (List.getElem_mem hi) (hks _ (List.getElem_mem hi)))
        simp -implicitDefEqProofs only [e1, ixA_kids (List.getElem?_eq_getElem hi), cs, add_int, e3, ZS, ZT, Nat.reduceAdd]
        exact ihm (i + 1) E (by omega)
    refine ref04_Same_of ?_
    simp -implicitDefEqProofs only [ne_eq, not_true_eq_false, ZS, ZT, Nat.reduceAdd]
    exact loop t.kids.length 0 _ (by omega)
end Go.Pm
namespace Go.Pm
set_option linter.unusedVariables false
set_option linter.unusedSimpArgs false
inductive Bt where
  | lf
  | nd (l : Bt) (k v : Bs) (r : Bt)
def Bt.tre : Bt → Tre
  | .lf => Tre.nil
  | .nd l k v r => .mk 1 k v [] [l.tre, r.tre]
def Bt.dp : Bt → Nat
  | .lf => 0
  | .nd l _ _ r => max l.dp r.dp + 1
def Bt.toL : Bt → List Pr
  | .lf => []
  | .nd l k v r => l.toL ++ ⟨k, v⟩ :: r.toL
def Bt.bal : Bt → Prop
  | .lf => True
  | .nd l _ _ r => l.bal ∧ r.bal ∧ l.dp ≤ r.dp + 1 ∧ r.dp ≤ l.dp + 1
def Bt.sml : Bt → Prop
  | .lf => True
  | .nd l k v r => l.sml ∧ r.sml ∧ k.length ≤ 80 ∧ v.length ≤ 1024
def Bt.rotR : Bt → Bt
  | .nd (.nd a k v b) k2 v2 c => .nd a k v (.nd b k2 v2 c)
  | t => t
def Bt.rotL : Bt → Bt
  | .nd a k v (.nd b k2 v2 c) => .nd (.nd a k v b) k2 v2 c
  | t => t
def Bt.tlt : Bt → Int
  | .lf => 0
  | .nd l _ _ r => (l.dp : Int) - r.dp
def Bt.lev (l : Bt) (k v : Bs) (r : Bt) : Bt :=
  if l.dp = r.dp + 2 then Bt.rotR (.nd (if l.tlt < 0 then l.rotL else l) k v r)
  else if r.dp = l.dp + 2 then Bt.rotL (.nd l k v (if 0 < r.tlt then r.rotR else r))
  else .nd l k v r
def Bt.put (k v : Bs) : Bt → Bt
  | .lf => .nd .lf k v .lf
  | .nd l k' v' r => if k = k' then .nd l k v r else if ltB k k' = true then Bt.lev (Bt.put k v l) k' v' r else Bt.lev l k' v' (Bt.put k v r)
theorem toL_rotR (t : Bt) : t.rotR.toL = t.toL := by
  cases t with
  | lf => rfl
  | nd l k v r => cases l with
    | lf => rfl
    | nd a k2 v2 b => simp [Bt.rotR, Bt.toL]
theorem toL_rotL (t : Bt) : t.rotL.toL = t.toL := by
  cases t with
  | lf => rfl
  | nd l k v r => cases r with
    | lf => rfl
    | nd a k2 v2 b => simp [Bt.rotL, Bt.toL]
theorem toL_lev (l : Bt) (k v : Bs) (r : Bt) : (Bt.lev l k v r).toL = l.toL ++ ⟨k, v⟩ :: r.toL := by
  unfold Bt.lev
  split
  · rw [toL_rotR]; simp only [Bt.toL]; split <;> simp [toL_rotL]
  · split
    · rw [toL_rotL]; simp only [Bt.toL]; split <;> simp [toL_rotR]
    · rfl
theorem sml_rotR {t : Bt} (h : t.sml) : t.rotR.sml := by
  cases t with
  | lf => exact h
  | nd l k v r => cases l with
    | lf => exact h
    | nd a k2 v2 b => simp only [Bt.rotR, Bt.sml] at h ⊢; exact ⟨h.1.1, ⟨h.1.2.1, h.2⟩, h.1.2.2⟩
theorem sml_rotL {t : Bt} (h : t.sml) : t.rotL.sml := by
  cases t with
  | lf => exact h
  | nd l k v r => cases r with
    | lf => exact h
    | nd a k2 v2 b => simp only [Bt.rotL, Bt.sml] at h ⊢; exact ⟨⟨h.1, h.2.1.1, h.2.2⟩, h.2.1.2⟩
theorem sml_lev {l : Bt} {k v : Bs} {r : Bt} (hl : l.sml) (hr : r.sml) (hk : k.length ≤ 80) (hv : v.length ≤ 1024) : (Bt.lev l k v r).sml := by
  unfold Bt.lev
  split
  · refine sml_rotR ⟨?_, hr, hk, hv⟩; split
    · exact sml_rotL hl
    · exact hl
  · split
    · refine sml_rotL ⟨hl, ?_, hk, hv⟩; split
      · exact sml_rotR hr
      · exact hr
    · exact ⟨hl, hr, hk, hv⟩
theorem sml_put {k v : Bs} (hk : k.length ≤ 80) (hv : v.length ≤ 1024) : ∀ {t : Bt}, t.sml → (Bt.put k v t).sml
  | .lf, _ => ⟨trivial, trivial, hk, hv⟩
  | .nd l k' v' r, h => by
    unfold Bt.put
    split
    · exact ⟨h.1, h.2.1, hk, hv⟩
    · split
      · exact sml_lev (sml_put hk hv h.1) h.2.1 h.2.2.1 h.2.2.2
      · exact sml_lev h.1 (sml_put hk hv h.2.1) h.2.2.1 h.2.2.2
theorem lev_bal {l : Bt} {k v : Bs} {r : Bt} (hl : l.bal) (hr : r.bal) (h1 : l.dp ≤ r.dp + 2) (h2 : r.dp ≤ l.dp + 2) :
    (Bt.lev l k v r).bal ∧ max l.dp r.dp ≤ (Bt.lev l k v r).dp ∧ (Bt.lev l k v r).dp ≤ max l.dp r.dp + 1 ∧ (l.dp ≤ r.dp + 1 → r.dp ≤ l.dp + 1 → (Bt.lev l k v r).dp = max l.dp r.dp + 1) := by
  unfold Bt.lev
  split
  · rename_i h
    cases l with
    | lf => simp [Bt.dp] at h
    | nd a ka va b =>
      simp only [Bt.dp, Bt.bal] at *
      by_cases ht : (Bt.nd a ka va b).tlt < 0
      · rw [if_pos ht]
        simp only [Bt.tlt] at ht
        cases b with
        | lf => simp [Bt.dp] at ht; omega
        | nd c kc vc d =>
          simp only [Bt.rotL, Bt.rotR, Bt.dp, Bt.bal] at *
          refine ⟨⟨⟨?_, ?_, ?_, ?_⟩, ⟨?_, ?_, ?_, ?_⟩, ?_, ?_⟩, ?_, ?_, ?_⟩ <;> first | exact hl.1 | exact hl.2.1.1 | exact hl.2.1.2.1 | exact hr | omega
      · rw [if_neg ht]
        simp only [Bt.tlt] at ht
        simp only [Bt.rotR, Bt.dp, Bt.bal] at *
        refine ⟨⟨?_, ⟨?_, ?_, ?_, ?_⟩, ?_, ?_⟩, ?_, ?_, ?_⟩ <;> first | exact hl.1 | exact hl.2.1 | exact hr | omega
  · split
    · rename_i h' h
      cases r with
      | lf => simp [Bt.dp] at h
      | nd a ka va b =>
        simp only [Bt.dp, Bt.bal] at *
        by_cases ht : 0 < (Bt.nd a ka va b).tlt
        · rw [if_pos ht]
          simp only [Bt.tlt] at ht
          cases a with
          | lf => simp [Bt.dp] at ht; omega
          | nd c kc vc d =>
            simp only [Bt.rotL, Bt.rotR, Bt.dp, Bt.bal] at *
            refine ⟨⟨⟨?_, ?_, ?_, ?_⟩, ⟨?_, ?_, ?_, ?_⟩, ?_, ?_⟩, ?_, ?_, ?_⟩ <;> first | exact hl | exact hr.1.1 | exact hr.1.2.1 | exact hr.2.1 | omega
        · rw [if_neg ht]
          simp only [Bt.tlt] at ht
          simp only [Bt.rotL, Bt.dp, Bt.bal] at *
          refine ⟨⟨⟨?_, ?_, ?_, ?_⟩, ?_, ?_, ?_⟩, ?_, ?_, ?_⟩ <;> first | exact hl | exact hr.1 | exact hr.2.1 | omega
    · simp only [Bt.dp, Bt.bal]
      exact ⟨⟨hl, hr, by omega, by omega⟩, by omega, by omega, fun _ _ => trivial⟩
theorem put_bal (k v : Bs) : ∀ {t : Bt}, t.bal → (Bt.put k v t).bal ∧ t.dp ≤ (Bt.put k v t).dp ∧ (Bt.put k v t).dp ≤ t.dp + 1
  | .lf, _ => by simp [Bt.put, Bt.bal, Bt.dp]
  | .nd l k' v' r, h => by
    unfold Bt.put
    simp only [Bt.bal] at h
    split
    · exact ⟨h, by simp [Bt.dp], by simp [Bt.dp]⟩
    · split
      · obtain ⟨a1, a2, a3⟩ := put_bal k v h.1
        obtain ⟨b1, b2, b3, b4⟩ := lev_bal (k := k') (v := v') a1 h.2.1 (by omega) (by omega)
        refine ⟨b1, ?_, ?_⟩
        · simp only [Bt.dp]
          by_cases c : (Bt.put k v l).dp ≤ r.dp + 1
          · rw [b4 c (by omega)]; omega
          · omega
        · simp only [Bt.dp]
          by_cases c : (Bt.put k v l).dp ≤ r.dp + 1
          · rw [b4 c (by omega)]; omega
          · omega
      · obtain ⟨a1, a2, a3⟩ := put_bal k v h.2.1
        obtain ⟨b1, b2, b3, b4⟩ := lev_bal (k := k') (v := v') h.1 a1 (by omega) (by omega)
        refine ⟨b1, ?_, ?_⟩
        · simp only [Bt.dp]
          by_cases c : (Bt.put k v r).dp ≤ l.dp + 1
          · rw [b4 (by omega) c]; omega
          · omega
        · simp only [Bt.dp]
          by_cases c : (Bt.put k v r).dp ≤ l.dp + 1
          · rw [b4 (by omega) c]; omega
          · omega
def insL (k v : Bs) : List Pr → List Pr
  | [] => [⟨k, v⟩]
  | p :: l => if k = p.key then ⟨k, v⟩ :: l else if ltB k p.key = true then ⟨k, v⟩ :: p :: l else p :: insL k v l
def SrtP (l : List Pr) : Prop := l.Pairwise fun a b => ltB a.key b.key = true
theorem srtP_two {a b : List Pr} {t : Pr} (h : SrtP (a ++ t :: b)) : SrtP a ∧ SrtP b ∧ (∀ k ∈ a, ltB k.key t.key = true) ∧ ∀ k ∈ b, ltB t.key k.key = true := by
  unfold SrtP at h ⊢
  rw [List.pairwise_append, List.pairwise_cons] at h
  exact ⟨h.1, h.2.1.2, fun k hk => h.2.2 k hk t (by simp), h.2.1.1⟩
theorem insL_lt {k v : Bs} {p : Pr} {b : List Pr} (h : ltB k p.key = true) : ∀ (a : List Pr), insL k v (a ++ p :: b) = insL k v a ++ p :: b
  | [] => by
    have : k ≠ p.key := fun e => by rw [e, ltB_irrefl] at h; cases h
    simp [insL, this, h]
  | q :: a => by
    simp only [List.cons_append, insL]
    split
    · rfl
    · split
      · rfl
      · rw [insL_lt h a]; rfl
theorem insL_gt {k v : Bs} {b : List Pr} : ∀ (a : List Pr), (∀ q ∈ a, ltB q.key k = true) → insL k v (a ++ b) = a ++ insL k v b
  | [], _ => rfl
  | q :: a, h => by
    have hq := h q (by simp)
    have h1 : k ≠ q.key := fun e => by rw [e, ltB_irrefl] at hq; cases hq
    have h2 : ¬ ltB k q.key = true := by rw [ltB_asymm hq]; decide
    simp only [List.cons_append, insL, h1, h2, if_false, Bool.false_eq_true]
    rw [insL_gt a fun q hq => h q (by simp [hq])]
theorem toL_put (k v : Bs) : ∀ {t : Bt}, SrtP t.toL → (Bt.put k v t).toL = insL k v t.toL
  | .lf, _ => rfl
  | .nd l k' v' r, h => by
    unfold Bt.put
    simp only [Bt.toL] at h ⊢
    obtain ⟨s1, s2, s3, s4⟩ := srtP_two h
    split
    · rename_i e
      subst e
      rw [insL_gt _ s3]
      simp [Bt.toL, insL]
    · rename_i e
      split
      · rename_i hl
        rw [toL_lev, toL_put k v s1, insL_lt hl]
      · rename_i hl
        have hg : ltB k' k = true := by
          cases hx : ltB k' k with
          | true => rfl
          | false => exact absurd (ltB_tri (by simpa using hl) hx) e
        rw [toL_lev, toL_put k v s2, insL_gt _ fun q hq => ltB_trans (s3 q hq) hg]
        simp [insL, e, hl]
theorem ins_srt {k v : Bs} : ∀ {l : List Pr}, SrtP l → SrtP (insL k v l)
  | [], _ => by simp [insL, SrtP]
  | p :: l, h => by
    unfold SrtP at h
    rw [List.pairwise_cons] at h
    unfold insL
    split
    · rename_i e
      unfold SrtP; rw [List.pairwise_cons]
      exact ⟨fun a ha => by rw [e]; exact h.1 a ha, h.2⟩
    · split
      · rename_i e hl
        unfold SrtP; rw [List.pairwise_cons, List.pairwise_cons]
        exact ⟨fun a ha => by
          rcases List.mem_cons.1 ha with rfl | ha
          · exact hl
          · exact ltB_trans hl (h.1 a ha), h.1, h.2⟩
      · rename_i e hl
        unfold SrtP; rw [List.pairwise_cons]
        refine ⟨fun a ha => ?_, ins_srt h.2⟩
        have hg : ltB p.key k = true := by
          cases hx : ltB p.key k with
          | true => rfl
          | false => exact absurd (ltB_tri (by simpa using hl) hx) e
        have mem : ∀ (l : List Pr), a ∈ insL k v l → a = ⟨k, v⟩ ∨ a ∈ l := by
          intro l
          induction l with
          | nil => simp [insL]
          | cons q l ih =>
            unfold insL
            split
            · intro m; rcases List.mem_cons.1 m with rfl | m
              · exact .inl rfl
              · exact .inr (by simp [m])
            · split
              · intro m; rcases List.mem_cons.1 m with rfl | m
                · exact .inl rfl
                · exact .inr m
              · intro m; rcases List.mem_cons.1 m with rfl | m
                · exact .inr (by simp)
                · rcases ih m with h | h
                  · exact .inl h
                  · exact .inr (by simp [h])
        rcases mem l ha with rfl | ha
        · exact hg
        · exact h.1 a ha
theorem ins_len (k v : Bs) : ∀ (l : List Pr), (insL k v l).length ≤ l.length + 1
  | [] => by simp [insL]
  | p :: l => by
    unfold insL
    split
    · simp
    · split
      · simp
      · have := ins_len k v l; simp; omega
theorem tre_kids {l r : Bt} {k v : Bs} : (Bt.nd l k v r).tre.kids = [l.tre, r.tre] := rfl
theorem tre_dp : ∀ t : Bt, dpF t.tre = t.dp
  | .lf => dp_leaf rfl
  | .nd l k v r => by rw [dp_two tre_kids, tre_dp l, tre_dp r]; rfl
theorem tre_nodes : ∀ t : Bt, (nodesF t.tre).map pairT = t.toL ∧ ∀ n ∈ nodesF t.tre, n.kind = 1
  | .lf => by rw [show (Bt.lf).tre = Tre.nil from rfl, nodes_nil rfl]; exact ⟨rfl, fun _ h => by simp at h⟩
  | .nd l k v r => by
    have a := tre_nodes l
    have b := tre_nodes r
    rw [nodes_two tre_kids]
    refine ⟨?_, fun n hn => ?_⟩
    · rw [List.map_append, List.map_cons, a.1, b.1]; rfl
    · rcases List.mem_append.1 hn with h | h
      · exact a.2 n h
      · rcases List.mem_cons.1 h with rfl | h
        · rfl
        · exact b.2 n h
theorem tre_len (t : Bt) : (nodesF t.tre).length = t.toL.length := by rw [← (tre_nodes t).1, List.length_map]
theorem tre_full : ∀ t : Bt, fullF t.tre = true
  | .lf => by rw [full_eq]; rfl
  | .nd l k v r => by
    rw [full_eq, tre_kids]
    simp only [List.all_cons, List.all_nil, tre_full l, tre_full r]
    rfl
theorem tre_formed : ∀ {t : Bt}, t.sml → formedF t.tre = true
  | .lf, _ => by rw [formedF_eq]; rfl
  | .nd l k v r, h => by
    simp only [Bt.sml] at h
    rw [formedF_eq, tre_kids]
    simp only [List.all_cons, List.all_nil, tre_formed h.1, tre_formed h.2.1, Bool.and_true]
    simp [formed1, Bt.tre, Tre.kind, Tre.key, Tre.value, Tre.digest, Tre.kids, h.2.2.1, h.2.2.2]
theorem tre_even : ∀ {t : Bt}, t.bal → evenF t.tre = true
  | .lf, _ => even_leaf rfl
  | .nd l k v r, h => by
    simp only [Bt.bal] at h
    rw [even_two tre_kids, tre_even h.1, tre_even h.2.1, tre_dp, tre_dp]
    simp [h.2.2.1, h.2.2.2]
theorem tre_ok : ∀ {t : Bt}, t.sml → t.tre.ok
  | .lf, _ => nil_ok
  | .nd l k v r, h => by
    simp only [Bt.sml] at h
    have a := tre_ok h.1; have b := tre_ok h.2.1
    simp only [Bt.tre, Tre.ok, okL, List.length_nil, List.length_cons]
    exact ⟨by omega, by omega, by omega, by omega, a, b, trivial⟩
theorem tre_deep : ∀ (t : Bt) (n : Int), (t.dp : Int) ≤ n → deepF t.tre n = false
  | .lf, n, _ => by rw [deepF_eq]; rfl
  | .nd l k v r, n, h => by
    simp only [Bt.dp] at h
    rw [deepF_eq, tre_kids]
    have h1 : ¬ n < 1 := by omega
    simp only [List.any_cons, List.any_nil, tre_deep l (n - 1) (by omega), tre_deep r (n - 1) (by omega), h1, decide_false, Bool.and_false, Bool.or_false]
theorem tre_check {t : Bt} (h : t.sml) (hd : t.dp ≤ 64) : checkF t.tre = 0 := by
  unfold checkF
  rw [tre_deep t 64 (by omega), tre_formed h]; rfl
theorem risK_of : ∀ {l : List Bs}, (l.Pairwise fun a b => ltB a b = true) → risK l = true
  | [], _ => rfl
  | [a], _ => rfl
  | a :: b :: l, h => by
    rw [List.pairwise_cons] at h
    unfold risK
    rw [h.1 b (by simp), risK_of h.2]; rfl
theorem tre_ris {t : Bt} (h : SrtP t.toL) : risN (nodesF t.tre) = true := by
  unfold risN
  refine risK_of ?_
  have : (nodesF t.tre).map Tre.key = t.toL.map Pr.key := by rw [← (tre_nodes t).1, List.map_map]; rfl
  rw [this, List.pairwise_map]
  exact h
theorem tre_is {t : Bt} (h : t.sml) (hb : t.bal) (hs : SrtP t.toL) (hd : t.dp ≤ 64) : isF t.tre = true := by
  unfold isF
  rw [tre_check h hd, tre_full, tre_ris hs, tre_even hb]; rfl
end Go.Pm
namespace Go.Pm
open Go.Proofs
set_option linter.unusedVariables false
set_option linter.unusedSimpArgs false
theorem sto_t2 {β : Type} {H : List AObj} {b : Nat} {s t : Tre} {K : List AObj → List Nat → Option β} (h : H[b]? = some (.row 5 [s.av])) : stoK 5 (.ptr b 1 0 0) t.av H K = K (H.set b (.row 5 [t.av])) [] := by
  rw [av_eq s] at h; exact sto_t h rfl
abbrev ndT (l : Tre) (k v : Bs) (r : Tre) : Tre := .mk 1 k v [] [l, r]
theorem ix_l (l r : Tre) (H : List AObj) : ixA 5 (kidsA [l, r]) (.int .i64 0) H = some (.ip l.av.cells) := ixA_kids (i := 0) rfl
theorem ix_r (l r : Tre) (H : List AObj) : ixA 5 (kidsA [l, r]) (.int .i64 1) H = some (.ip r.av.cells) := ixA_kids (i := 1) rfl
theorem nodeD (l r : Tre) (k v : Bs) (H : List AObj) : callD (EV C) n_ref05_Node [l.av, bys k, bys v, r.av] H = some (ndT l k v r).av := callD_ok (by simp [goodL]) (rNode5_ok l r k v)
theorem rRight_ok (a b c : Tre) (k v k2 v2 : Bs) : EV C n_ref05_right [(ndT (ndT a k v b) k2 v2 c).av] [] = some ((ndT a k v (ndT b k2 v2 c)).av, [], []) := by
  refine ref05_right_of ?_
  simp -implicitDefEqProofs only [new_z, Tre.kids, Tre.key, Tre.value, ix_l, ix_r, ZS, ZT, Nat.reduceAdd]
  rw [sto_t (b := 2) rfl rfl]
  simp -implicitDefEqProofs only [Tre.kids, Tre.key, Tre.value, ix_l, ix_r, nodeD, ZS, ZT, Nat.reduceAdd]
  rw [sto_t (b := 1) rfl rfl]
  simp -implicitDefEqProofs only [ZS, ZT, Nat.reduceAdd]
  exact endB_good (good_tr _)
theorem rLeft_ok (a b c : Tre) (k v k2 v2 : Bs) : EV C n_ref05_left [(ndT a k v (ndT b k2 v2 c)).av] [] = some ((ndT (ndT a k v b) k2 v2 c).av, [], []) := by
  refine ref05_left_of ?_
  simp -implicitDefEqProofs only [new_z, Tre.kids, Tre.key, Tre.value, ix_l, ix_r, ZS, ZT, Nat.reduceAdd]
  rw [sto_t (b := 2) rfl rfl]
  simp -implicitDefEqProofs only [Tre.kids, Tre.key, Tre.value, ix_l, ix_r, nodeD, ZS, ZT, Nat.reduceAdd]
  rw [sto_t (b := 1) rfl rfl]
  simp -implicitDefEqProofs only [ZS, ZT, Nat.reduceAdd]
  exact endB_good (good_tr _)
theorem bdepthD {t : Bt} (h : t.sml) (hd : t.dp ≤ 2^40) (H : List AObj) : callD (EV C) n_ref04_Depth [t.tre.av] H = some (.int .i64 (t.dp : Int)) :=
  callD_ok (by simp [goodL]) (by rw [← tre_dp]; exact rDepth_ok t.tre (tre_ok h) (tre_formed h) (by rw [tre_dp]; exact hd))
theorem bt_nd (l : Bt) (k v : Bs) (r : Bt) : (Bt.nd l k v r).tre = ndT l.tre k v r.tre := rfl
theorem rTilt_ok {l r : Bt} (k v : Bs) (hl : l.sml) (hr : r.sml) (h1 : l.dp ≤ 2^40) (h2 : r.dp ≤ 2^40) : EV C n_ref05_tilt [(Bt.nd l k v r).tre.av] [] = some (.int .i64 ((l.dp : Int) - r.dp), [], []) := by
  refine ref05_tilt_of ?_
  have e : IntKind.i64.wrap ((l.dp : Int) - (r.dp : Int)) = (l.dp : Int) - (r.dp : Int) := by rw [wrap64] <;> omega
  simp -implicitDefEqProofs only [bt_nd, Tre.kids, ix_l, ix_r, bdepthD hl h1, bdepthD hr h2, sub_int, e, ZS, ZT, Nat.reduceAdd]
  exact endB_good rfl
theorem tiltK {t : Bt} (hs : t.sml) (h : ∃ l k v r, t = .nd l k v r) (hd : t.dp ≤ 2^40) {β : Type} (H : List AObj) (K : AV → List AObj → List Nat → Option β) : callK (EV C) false n_ref05_tilt [t.tre.av] H K = K (.int .i64 t.tlt) H [] := by
  obtain ⟨l, k, v, r, rfl⟩ := h
  simp only [Bt.sml] at hs
  simp only [Bt.dp] at hd
  exact callK_ok (by simp) (rTilt_ok k v hs.1 hs.2.1 (by omega) (by omega))
theorem rLevel_ok {l r : Bt} (k v : Bs) (hl : l.sml) (hr : r.sml) (hk : k.length ≤ 80) (hv : v.length ≤ 1024) (bl : l.bal) (br : r.bal) (h1 : l.dp ≤ 2^30) (h2 : r.dp ≤ 2^30) :
    EV C n_ref05_level [(Bt.nd l k v r).tre.av] [] = some ((Bt.lev l k v r).tre.av, [], []) := by
  refine ref05_level_of ?_
  simp -implicitDefEqProofs only [new_z, ZS, ZT, Nat.reduceAdd]
  rw [tiltK (show (Bt.nd l k v r).sml from ⟨hl, hr, hk, hv⟩) ⟨_, _, _, _, rfl⟩ (by simp only [Bt.dp]; omega)]
  simp -implicitDefEqProofs only [Bt.tlt, bt_nd, ZS, ZT, Nat.reduceAdd]
  by_cases c : l.dp = r.dp + 2
  · have c' : (l.dp : Int) - (r.dp : Int) = 2 := by omega
    rw [if_pos c']
    cases l with
    | lf => simp [Bt.dp] at c
    | nd a ka va b =>
      simp only [Bt.dp] at h1 c
      simp -implicitDefEqProofs only [Tre.kids, ix_l, ix_r, ZS, ZT, Nat.reduceAdd]
      rw [← bt_nd, tiltK hl ⟨_, _, _, _, rfl⟩ (by simp only [Bt.dp]; omega)]
      simp -implicitDefEqProofs only [Bt.tlt, bt_nd, ZS, ZT, Nat.reduceAdd]
      by_cases d : (Bt.nd a ka va b).tlt < 0
      · have d' : (a.dp : Int) - (b.dp : Int) < 0 := d
        rw [if_pos d']
        cases b with
        | lf => simp [Bt.dp] at d'; omega
        | nd b1 kb vb b2 =>
          have el : Bt.lev (Bt.nd a ka va (Bt.nd b1 kb vb b2)) k v r = Bt.nd (Bt.nd a ka va b1) kb vb (Bt.nd b2 k v r) := by unfold Bt.lev; rw [if_pos (by simpa only [Bt.dp] using c), if_pos d]; rfl
          rw [el]
          have lf : ∀ H, callD (EV C) n_ref05_left [(ndT a.tre ka va (ndT b1.tre kb vb b2.tre)).av] H = some (ndT (ndT a.tre ka va b1.tre) kb vb b2.tre).av := fun H => callD_ok (by simp [goodL]) (rLeft_ok _ _ _ _ _ _ _)
          simp -implicitDefEqProofs only [bt_nd, Tre.kids, Tre.key, Tre.value, ix_l, ix_r, lf, nodeD, ZS, ZT, Nat.reduceAdd]
          rw [sto_t2 (b := 0) rfl]
          simp -implicitDefEqProofs only [ZS, ZT, Nat.reduceAdd]
          rw [callK_ok (by simp) (rRight_ok _ _ _ _ _ _ _), sto_t (b := 1) rfl rfl]
          simp -implicitDefEqProofs only [ZS, ZT, Nat.reduceAdd]
          exact endB_good (good_tr _)
      · have d' : ¬ (a.dp : Int) - (b.dp : Int) < 0 := d
        have el : Bt.lev (Bt.nd a ka va b) k v r = Bt.nd a ka va (Bt.nd b k v r) := by unfold Bt.lev; rw [if_pos (by simpa only [Bt.dp] using c), if_neg d]; rfl
        rw [if_neg d', el]
        rw [callK_ok (by simp) (rRight_ok _ _ _ _ _ _ _), sto_t (b := 1) rfl rfl]
        simp -implicitDefEqProofs only [ZS, ZT, Nat.reduceAdd]
        exact endB_good (good_tr _)
  · have c' : ¬ (l.dp : Int) - (r.dp : Int) = 2 := by omega
    rw [if_neg c']
    by_cases e : r.dp = l.dp + 2
    · have e' : (l.dp : Int) - (r.dp : Int) = -2 := by omega
      simp -implicitDefEqProofs only [e', ZS, ZT, Nat.reduceAdd]
      cases r with
      | lf => simp [Bt.dp] at e
      | nd a ka va b =>
        simp only [Bt.dp] at h2 e
        simp -implicitDefEqProofs only [bt_nd, Tre.kids, ix_l, ix_r, ZS, ZT, Nat.reduceAdd]
        rw [← bt_nd, tiltK hr ⟨_, _, _, _, rfl⟩ (by simp only [Bt.dp]; omega)]
        simp -implicitDefEqProofs only [Bt.tlt, bt_nd, ZS, ZT, Nat.reduceAdd]
        by_cases d : 0 < (Bt.nd a ka va b).tlt
        · have d' : 0 < (a.dp : Int) - (b.dp : Int) := d
          rw [if_pos d']
          cases a with
          | lf => simp [Bt.dp] at d'; omega
          | nd b1 kb vb b2 =>
            have el : Bt.lev l k v (Bt.nd (Bt.nd b1 kb vb b2) ka va b) = Bt.nd (Bt.nd l k v b1) kb vb (Bt.nd b2 ka va b) := by unfold Bt.lev; rw [if_neg c, if_pos (by simpa only [Bt.dp] using e), if_pos d]; rfl
            rw [el]
            have lf : ∀ H, callD (EV C) n_ref05_right [(ndT (ndT b1.tre kb vb b2.tre) ka va b.tre).av] H = some (ndT b1.tre kb vb (ndT b2.tre ka va b.tre)).av := fun H => callD_ok (by simp [goodL]) (rRight_ok _ _ _ _ _ _ _)
            simp -implicitDefEqProofs only [bt_nd, Tre.kids, Tre.key, Tre.value, ix_l, ix_r, lf, nodeD, ZS, ZT, Nat.reduceAdd]
            rw [sto_t2 (b := 0) rfl]
            simp -implicitDefEqProofs only [ZS, ZT, Nat.reduceAdd]
            rw [callK_ok (by simp) (rLeft_ok _ _ _ _ _ _ _), sto_t (b := 1) rfl rfl]
            simp -implicitDefEqProofs only [ZS, ZT, Nat.reduceAdd]
            exact endB_good (good_tr _)
        · have d' : ¬ 0 < (a.dp : Int) - (b.dp : Int) := d
          have el : Bt.lev l k v (Bt.nd a ka va b) = Bt.nd (Bt.nd l k v a) ka va b := by unfold Bt.lev; rw [if_neg c, if_pos (by simpa only [Bt.dp] using e), if_neg d]; rfl
          rw [if_neg d', el]
          rw [callK_ok (by simp) (rLeft_ok _ _ _ _ _ _ _), sto_t (b := 1) rfl rfl]
          simp -implicitDefEqProofs only [ZS, ZT, Nat.reduceAdd]
          exact endB_good (good_tr _)
    · have e' : ¬ (l.dp : Int) - (r.dp : Int) = -2 := by omega
      have el : Bt.lev l k v r = Bt.nd l k v r := by unfold Bt.lev; rw [if_neg c, if_neg e]
      rw [if_neg e', el, sto_t (b := 1) rfl rfl]
      simp -implicitDefEqProofs only [ZS, ZT, Nat.reduceAdd]
      exact endB_good (good_tr _)
theorem rPut_ok (k v : Bs) (hk : k.length ≤ 80) (hv : v.length ≤ 1024) : ∀ (t : Bt), t.sml → t.bal → t.dp ≤ 2^20 → EV C n_ref05_Put [t.tre.av, bys k, bys v] [] = some ((Bt.put k v t).tre.av, [], [])
  | .lf, _, _, _ => Put1_ok k v
  | .nd l k' v' r, hs, hb, hd => by
    simp only [Bt.sml] at hs
    simp only [Bt.bal] at hb
    simp only [Bt.dp] at hd
    have hl : ∀ H, callD (EV C) n_ref05_Put [l.tre.av, bys k, bys v] H = some (Bt.put k v l).tre.av := fun H => callD_ok (by simp [goodL]) (rPut_ok k v hk hv l hs.1 hb.1 (by omega))
    have hr : ∀ H, callD (EV C) n_ref05_Put [r.tre.av, bys k, bys v] H = some (Bt.put k v r).tre.av := fun H => callD_ok (by simp [goodL]) (rPut_ok k v hk hv r hs.2.1 hb.2.1 (by omega))
    have pl := put_bal k v hb.1
    have pr := put_bal k v hb.2.1
    have ll : ∀ H, callD (EV C) n_ref05_level [(ndT (Bt.put k v l).tre k' v' r.tre).av] H = some (Bt.lev (Bt.put k v l) k' v' r).tre.av := fun H => callD_ok (by simp [goodL]) (rLevel_ok k' v' (sml_put hk hv hs.1) hs.2.1 hs.2.2.1 hs.2.2.2 pl.1 hb.2.1 (by omega) (by omega))
    have lr : ∀ H, callD (EV C) n_ref05_level [(ndT l.tre k' v' (Bt.put k v r).tre).av] H = some (Bt.lev l k' v' (Bt.put k v r)).tre.av := fun H => callD_ok (by simp [goodL]) (rLevel_ok k' v' hs.1 (sml_put hk hv hs.2.1) hs.2.2.1 hs.2.2.2 hb.1 pr.1 (by omega) (by omega))
    have e0 : ¬ ((([l.tre, r.tre] : List Tre).length : Nat) : Int) = 0 := by simp
    refine ref05_Put_of ?_
    simp -implicitDefEqProofs only [new_z, bt_nd, Tre.kids, Tre.key, Tre.value, ZS, ZT, Nat.reduceAdd]
    rw [if_neg (by omega)]
    unfold Bt.put
    by_cases c : k = k'
    · simp -implicitDefEqProofs only [c, Tre.kids, ix_l, ix_r, nodeD, ZS, ZT, Nat.reduceAdd]
      rw [sto_t (b := 1) rfl rfl]
      simp -implicitDefEqProofs only [ZS, ZT, Nat.reduceAdd]
      exact endB_good (good_tr _)
    · rw [if_neg c, if_neg c]
      simp -implicitDefEqProofs only [Tre.kids, Tre.key, Tre.value, lss_str, ZS, ZT, Nat.reduceAdd]
      cases hc : ltB k k' with
      | true =>
        simp -implicitDefEqProofs only [Tre.kids, Tre.key, Tre.value, ix_l, ix_r, hl, nodeD, ll, ZS, ZT, Nat.reduceAdd]
        rw [sto_t (b := 1) rfl rfl]
        simp -implicitDefEqProofs only [ZS, ZT, Nat.reduceAdd]
        exact endB_good (good_tr _)
      | false =>
        simp -implicitDefEqProofs only [Bool.false_eq_true, Tre.kids, Tre.key, Tre.value, ix_l, ix_r, hr, nodeD, lr, ZS, ZT, Nat.reduceAdd]
        rw [sto_t (b := 1) rfl rfl]
        simp -implicitDefEqProofs only [ZS, ZT, Nat.reduceAdd]
        exact endB_good (good_tr _)
end Go.Pm
namespace Go.Pm
open Go.Proofs
set_option linter.unusedVariables false
set_option linter.unusedSimpArgs false
theorem one_is : isF oneT = true := by kernel_rfl
theorem one_show : showF 1 ⟨[], [], true⟩ oneT = oneT := by kernel_rfl
theorem one_ok : oneT.ok := by simp [oneT, Tre.nil, Tre.ok, okL]
theorem one_nodes : (nodesF oneT).length = 1 := by kernel_rfl
theorem prove_one : proveF 1 oneT ⟨[], [], true⟩ = (0, oneT) := by
  unfold proveF
  rw [if_neg (by decide), if_neg (by rw [one_is]; decide), one_show]
theorem prove_bad : proveF 0 oneT ⟨[], [], false⟩ = (1, Tre.nil) := by
  unfold proveF
  rw [if_pos (by decide)]
theorem eq_a : binA .eql Go.TypeDesc.string (cmpT Tryd.prog) true (.str ⟨([97] : Bs).toArray⟩) (.str { data := #[97] }) = some (.bool true) := by kernel_rfl
theorem up7_ok : EV C n_law07_up [] [] = some (.bool true, [], []) := by
  refine law07_up_of ?_
  have r1 : ∀ (K : AV → List AObj → List Nat → Option R3), rawK 1 1 (.int .u8 0) [(0, (.int .u8 97))] [] K = K (.slc 0 0 1 1) [.row 1 [.int .u8 97]] [] := fun K => rfl
  have r2 : ∀ (K : AV → Option R3), (cvR (.slc 0 0 1 1) [.row 1 [.int .u8 97]]).bind K = K (.slc 0 0 1 1) := fun K => rfl
  have r3 : ∀ (K : List AV → Option R3), (fillB (AV.cells (.agg [.nils, .nils])) [(0, 1, .slc 0 0 1 1)]).bind K = K [.slc 0 0 1 1, .nils] := fun K => rfl
  have r4 : ∀ (K : AV → List AObj → List Nat → Option R3), litK 2 1 (.agg [.nils, .nils]) [(0, (.agg [.slc 0 0 1 1, .nils]))] [.row 1 [.int .u8 97]] K = K (prsA [⟨[97], []⟩]) [.dead] [] := fun K => rfl
  have f1 : ∀ (K : List AV → Option R3), (fillB (AV.cells (.agg [.nils, .nils, (.bool false)])) [(2, 1, (.bool true))]).bind K = K [.nils, .nils, .bool true] := fun K => rfl
  have f2 : ∀ (K : List AV → Option R3), (fillB (AV.cells (.agg [.nils, .nils, (.bool false)])) []).bind K = K [.nils, .nils, .bool false] := fun K => rfl
  have z1 : ∀ H, frz H (.agg [.nils, .nils, .bool true]) = some (Spn.av ⟨[], [], true⟩) := fun H => rfl
  have z2 : ∀ H, frz H (.agg [.nils, .nils, .bool false]) = some (Spn.av ⟨[], [], false⟩) := fun H => rfl
  simp only [r1, r2, r3, r4]
  rw [callK_ok (by simp [goodL]) Grown1_ok]
  simp only [new_z, f1, f2, List.length_nil, List.length_cons, List.cons_append, List.nil_append]
  rw [sto_t (b := 1) rfl rfl]
  simp only [List.set_cons_succ, List.set_cons_zero]
  rw [ld_box (b := 1) rfl, Option.bind_some]
  rw [callK_nil (bs := [.int .i64 1, oneT.av, Spn.av ⟨[], [], true⟩]) (by simp [killsL, kills, kills_good _ (good_tr oneT)]) (frzL_cons rfl (frzL_cons (frz_good _ _ (good_tr _)) (frzL_cons (z1 _) rfl))) (by simp [goodL, AV.good]) (Prove_ok 1 ⟨[], [], true⟩ oneT one_ok (by rw [one_nodes]; decide)), prove_one]
  simp -implicitDefEqProofs only [resP, new_z, ZS, ZT, Nat.reduceAdd]
  rw [sto_t (b := 2) rfl rfl]
  simp only [List.set_cons_succ, List.set_cons_zero]
  rw [ld_box (b := 1) rfl, Option.bind_some]
  rw [callK_nil (bs := [.int .i64 0, oneT.av, Spn.av ⟨[], [], false⟩]) (by simp [killsL, kills, kills_good _ (good_tr oneT)]) (frzL_cons rfl (frzL_cons (frz_good _ _ (good_tr _)) (frzL_cons (z2 _) rfl))) (by simp [goodL, AV.good]) (Prove_ok 0 ⟨[], [], false⟩ oneT one_ok (by rw [one_nodes]; decide)), prove_bad]
  simp -implicitDefEqProofs only [resP, new_z, ZS, ZT, Nat.reduceAdd]
  rw [sto_t (b := 3) rfl rfl]
  have k2 : ∀ (o0 o1 : AObj) (T : List AObj), loadA false 1 (.ptr 2 1 0 0) (o0 :: o1 :: .row 5 [oneT.av] :: T) = some (.int .i64 1) := fun o0 o1 T => (ldb_k (b := 2) (t := oneT) rfl : loadA false 1 (.ptr 2 1 0 0) (o0 :: o1 :: .row 5 [oneT.av] :: T) = some (.int .i64 oneT.kind))
  have k3 : ∀ (o0 o1 : AObj) (T : List AObj), loadA false 1 (.ptr 2 1 0 1) (o0 :: o1 :: .row 5 [oneT.av] :: T) = some (bys [97]) := fun o0 o1 T => (ldb_a (b := 2) (t := oneT) rfl : loadA false 1 (.ptr 2 1 0 1) (o0 :: o1 :: .row 5 [oneT.av] :: T) = some (bys oneT.key))
  simp -implicitDefEqProofs only [eqlE0, k2, k3, eq_a, eqlE _ _ _ (show (1 : Int) ≠ 0 by decide), ZS, ZT, Nat.reduceAdd]
  exact endB_good rfl
end Go.Pm
namespace Go.Pm
open Go.Proofs
set_option linter.unusedVariables false
set_option linter.unusedSimpArgs false
theorem cut_okT {w : Int} (hw : wOk w = true) {t : Tre} (h : Gd w t) : (cutT w t).ok := by
  unfold cutT
  split
  · exact nil_ok
  · have := h.len hw
    have hw' : 1 ≤ w ∧ w ≤ 32 := by simpa [wOk] using hw
    exact tcut_ok (by omega)
theorem show_okT {w : Int} (hw : wOk w = true) (s : Spn) (t : Tre) : Gd w t → fullF t = true → (showF w s t).ok := by
  have hw' : 1 ≤ w ∧ w ≤ 32 := by simpa [wOk] using hw
  induction t using Tre.ind with
  | h t ih =>
    intro hg hfl
    rcases full_kind hg.formed hfl with ⟨h0, hk⟩ | ⟨h1, l0, r0, hk0⟩
    · rw [show_leaf w s hk]; exact nil_ok
    · obtain ⟨l, r, nd⟩ := hg.node (by omega) (by omega)
      have hk := nd.kids
      have hl : l ∈ t.kids := by rw [hk]; simp
      have hr : r ∈ t.kids := by rw [hk]; simp
      have hfa : fullF l = true ∧ fullF r = true := by
        rw [full_eq, Bool.and_eq_true, List.all_eq_true] at hfl
        exact ⟨hfl.2 l hl, hfl.2 r hr⟩
      have a := ih l hl nd.gl hfa.1
      have b := ih r hr nd.gr hfa.2
      have c := cut_okT hw nd.gl
      have d := cut_okT hw nd.gr
      have e : ((ofF w (0 :: t.value)).length : Int) = w := ofF_len hw _
      have k1 := nd.key; have k2 := nd.value
      rw [show_two w s hk]
      split
      · simp only [Tre.ok, okL, List.length_nil, List.length_cons]
        exact ⟨by omega, by omega, by omega, by omega, a, b, trivial⟩
      · split
        · simp only [Tre.ok, okL, List.length_nil, List.length_cons]
          exact ⟨by omega, by omega, by omega, by omega, c, b, trivial⟩
        · simp only [Tre.ok, okL, List.length_nil, List.length_cons]
          exact ⟨by omega, by omega, by omega, by omega, a, d, trivial⟩
end Go.Pm
namespace Go.Pm
set_option linter.unusedVariables false
set_option linter.unusedSimpArgs false
theorem told_cutT {w : Int} (hw : wOk w = true) {t : Tre} (h : Gd w t) (hfl : fullF t = true) : toldF w (cutT w t) = toldF w t := by
  unfold cutT
  rcases full_kind h.formed hfl with ⟨h0, hk⟩ | ⟨h1, l, r, hk⟩
  · rw [hk, if_pos (show ([] : List Tre).length = 0 from rfl), told_none w t h0, told_none w Tre.nil rfl]
  · rw [hk, if_neg (by simp), h.dgs, told_cut w (Tre.cut (dg w t)) rfl]
    exact if_pos (h.len hw)
theorem form_cutT (w : Int) (t : Tre) : formedF (cutT w t) = true := by
  unfold cutT; split
  · exact formed_nil
  · exact formed_cut _
theorem deep_cutT (w : Int) (t : Tre) (n : Int) : deepF (cutT w t) n = false := by
  unfold cutT; split
  · exact deep_nil n
  · exact deep_cut _ n
theorem show_cases {w : Int} (s : Spn) {t : Tre} (hg : Gd w t) (hfl : fullF t = true) : (t.kids = [] ∧ t.kind = 0) ∨ ∃ l r, t.kids = [l, r] ∧ t.kind = 1 ∧ Nd w t l r ∧ fullF l = true ∧ fullF r = true := by
  rcases full_kind hg.formed hfl with ⟨h0, hk⟩ | ⟨h1, l0, r0, hk0⟩
  · exact .inl ⟨hk, h0⟩
  · obtain ⟨l, r, nd⟩ := hg.node (by omega) (by omega)
    have hk := nd.kids
    have hl : l ∈ t.kids := by rw [hk]; simp
    have hr : r ∈ t.kids := by rw [hk]; simp
    rw [full_eq, Bool.and_eq_true, List.all_eq_true] at hfl
    exact .inr ⟨l, r, hk, h1, nd, hfl.2 l hl, hfl.2 r hr⟩
theorem show_told {w : Int} (hw : wOk w = true) (s : Spn) (t : Tre) : Gd w t → fullF t = true → toldF w (showF w s t) = toldF w t := by
  induction t using Tre.ind with
  | h t ih =>
    intro hg hfl
    rcases show_cases s hg hfl with ⟨hk, h0⟩ | ⟨l, r, hk, h1, nd, fl, fr⟩
    · rw [show_leaf w s hk, told_none w t h0, told_none w Tre.nil rfl]
    · have a := ih l (by rw [hk]; simp) nd.gl fl
      have b := ih r (by rw [hk]; simp) nd.gr fr
      have c := told_cutT hw nd.gl fl
      have d := told_cutT hw nd.gr fr
      have hp : pv w t = ofF w (0 :: t.value) := by unfold pv; rw [if_pos h1]
      rw [show_two w s hk]
      split
      · rw [told_node w t l r (by omega) (by omega) hk, told_node w (.mk 1 t.key t.value [] [showF w s l, showF w s r]) (showF w s l) (showF w s r) (by simp [Tre.kind]) (by simp [Tre.kind]) rfl, a, b]
        have : pv w (.mk 1 t.key t.value [] [showF w s l, showF w s r]) = pv w t := by rw [hp]; simp [pv, Tre.kind, Tre.value]
        rw [this]; rfl
      · split
        · rw [told_node w t l r (by omega) (by omega) hk, told_node w (.mk 2 t.key [] (ofF w (0 :: t.value)) [cutT w l, showF w s r]) (cutT w l) (showF w s r) (by simp [Tre.kind]) (by simp [Tre.kind]) rfl, b, c]
          have : pv w (.mk 2 t.key [] (ofF w (0 :: t.value)) [cutT w l, showF w s r]) = pv w t := by rw [hp]; simp [pv, Tre.kind, Tre.digest]
          rw [this]; rfl
        · rw [told_node w t l r (by omega) (by omega) hk, told_node w (.mk 2 t.key [] (ofF w (0 :: t.value)) [showF w s l, cutT w r]) (showF w s l) (cutT w r) (by simp [Tre.kind]) (by simp [Tre.kind]) rfl, a, d]
          have : pv w (.mk 2 t.key [] (ofF w (0 :: t.value)) [showF w s l, cutT w r]) = pv w t := by rw [hp]; simp [pv, Tre.kind, Tre.digest]
          rw [this]; rfl
theorem formed_in {k v : Bs} {x y : Tre} (hk : k.length ≤ 80) (hv : v.length ≤ 1024) (a : formedF x = true) (b : formedF y = true) : formedF (.mk 1 k v [] [x, y]) = true := by
  rw [formedF_eq]; simp [formed1, Tre.kind, Tre.key, Tre.value, Tre.digest, Tre.kids, a, b, hk, hv]
theorem formed_dark {k d : Bs} {x y : Tre} (hk : k.length ≤ 80) (a : formedF x = true) (b : formedF y = true) : formedF (.mk 2 k [] d [x, y]) = true := by
  rw [formedF_eq]; simp [formed1, Tre.kind, Tre.key, Tre.value, Tre.digest, Tre.kids, a, b, hk]
theorem show_formed {w : Int} (s : Spn) (t : Tre) : Gd w t → fullF t = true → formedF (showF w s t) = true := by
  induction t using Tre.ind with
  | h t ih =>
    intro hg hfl
    rcases show_cases s hg hfl with ⟨hk, h0⟩ | ⟨l, r, hk, h1, nd, fl, fr⟩
    · rw [show_leaf w s hk]; exact formed_nil
    · have a := ih l (by rw [hk]; simp) nd.gl fl
      have b := ih r (by rw [hk]; simp) nd.gr fr
      have c := form_cutT w l
      have d := form_cutT w r
      have k1 := nd.key; have k2 := nd.value
      rw [show_two w s hk]
      split
      · exact formed_in k1 k2 a b
      · split
        · exact formed_dark k1 c b
        · exact formed_dark k1 a d
theorem show_deep {w : Int} (s : Spn) (t : Tre) : Gd w t → fullF t = true → ∀ n, deepF t n = false → deepF (showF w s t) n = false := by
  induction t using Tre.ind with
  | h t ih =>
    intro hg hfl n hd
    rcases show_cases s hg hfl with ⟨hk, h0⟩ | ⟨l, r, hk, h1, nd, fl, fr⟩
    · rw [show_leaf w s hk]; exact deep_nil n
    · have hn : t.isNode = true := by simp [Tre.isNode, h1]
      rw [deepF_eq, hk, hn] at hd
      simp only [Bool.true_and, List.any_cons, List.any_nil, Bool.or_false, Bool.or_eq_false_iff] at hd
      obtain ⟨hn1, hdl, hdr⟩ := hd
      have a := ih l (by rw [hk]; simp) nd.gl fl _ hdl
      have b := ih r (by rw [hk]; simp) nd.gr fr _ hdr
      have c := deep_cutT w l (n - 1)
      have d := deep_cutT w r (n - 1)
      rw [show_two w s hk]
      split
      · rw [deepF_eq]; simp [Tre.kids, a, b, hn1]
      · split
        · rw [deepF_eq]; simp [Tre.kids, b, c, hn1]
        · rw [deepF_eq]; simp [Tre.kids, a, d, hn1]
theorem show_gd {w : Int} (hw : wOk w = true) (s : Spn) {t : Tre} (hg : Gd w t) (hfl : fullF t = true) : Gd w (showF w s t) ∧ dg w (showF w s t) = dg w t :=
  ⟨⟨show_okT hw s t hg hfl, show_formed s t hg hfl, show_deep s t hg hfl 64 hg.deep, by rw [show_told hw s t hg hfl]; exact hg.told⟩, by unfold dg; rw [show_told hw s t hg hfl]⟩
end Go.Pm
namespace Go.Pm
open Go.Proofs
set_option linter.unusedVariables false
set_option linter.unusedSimpArgs false
def stepG (t : Bt) (p : Pr) : Bt := if p.key.length ≤ 80 ∧ p.value.length ≤ 1024 then Bt.put p.key p.value t else t
def grownF (l : List Pr) : Bt := (l.take 60).foldl stepG .lf
structure BInv (t : Bt) (n : Nat) : Prop where
  sml : t.sml
  bal : t.bal
  srt : SrtP t.toL
  len : t.toL.length ≤ n
theorem bt_dp_len : ∀ t : Bt, t.dp ≤ t.toL.length
  | .lf => Nat.le_refl _
  | .nd l k v r => by
    have a := bt_dp_len l; have b := bt_dp_len r
    simp only [Bt.dp, Bt.toL, List.length_append, List.length_cons]; omega
theorem BInv.dp {t : Bt} {n : Nat} (h : BInv t n) : t.dp ≤ n := Nat.le_trans (bt_dp_len t) h.len
theorem BInv.mono {t : Bt} {n m : Nat} (h : BInv t n) (hm : n ≤ m) : BInv t m := ⟨h.sml, h.bal, h.srt, Nat.le_trans h.len hm⟩
theorem BInv.step {t : Bt} {n : Nat} (h : BInv t n) (p : Pr) : BInv (stepG t p) (n + 1) := by
  unfold stepG
  split
  · rename_i hp
    refine ⟨sml_put hp.1 hp.2 h.sml, (put_bal _ _ h.bal).1, ?_, ?_⟩
    · rw [toL_put _ _ h.srt]; exact ins_srt h.srt
    · rw [toL_put _ _ h.srt]; have := ins_len p.key p.value t.toL; have := h.len; omega
  · exact h.mono (by omega)
theorem binv_lf : BInv .lf 0 := ⟨trivial, trivial, List.Pairwise.nil, Nat.le_refl _⟩
theorem binv_fold (l : List Pr) : ∀ {t : Bt} {n : Nat}, BInv t n → BInv (l.foldl stepG t) (n + l.length) := by
  induction l with
  | nil => intro t n h; exact h
  | cons p l ih => intro t n h; rw [List.foldl_cons]; exact (ih (h.step p)).mono (by simp; omega)
theorem binv_grown (l : List Pr) : BInv (grownF l) 60 := by
  have := binv_fold (l.take 60) binv_lf
  exact this.mono (by simp; omega)
theorem BInv.is {t : Bt} {n : Nat} (h : BInv t n) (hn : n ≤ 64) : isF t.tre = true := tre_is h.sml h.bal h.srt (Nat.le_trans h.dp hn)
/-- how a tree stands in a variable: as it is, or the empty one as it begins -/
def isT (x : AV) (t : Tre) : Prop := x = t.av ∨ (x = zTre ∧ t = Tre.nil)
theorem isT_frz {x : AV} {t : Tre} (h : isT x t) (H : List AObj) : frz H x = some t.av := by
  rcases h with rfl | ⟨rfl, rfl⟩
  · exact frz_good _ _ (good_tr t)
  · exact frz_nil0 H
theorem isT_kill {x : AV} {t : Tre} (h : isT x t) : kills x = [] := by
  rcases h with rfl | ⟨rfl, rfl⟩
  · exact kills_good _ (good_tr t)
  · rfl
theorem isT_ld {x : AV} {t : Tre} (h : isT x t) {b : Nat} {H : List AObj} (hb : H[b]? = some (.row 5 [x])) : loadA true 5 (.ptr b 1 0 0) H = some x := by
  rcases h with rfl | ⟨rfl, rfl⟩
  · exact ld_box hb
  · exact ld_agg hb rfl
theorem isT_agg {x : AV} {t : Tre} (h : isT x t) : ∃ cs, x = .agg cs ∧ cs.length = 5 := by
  rcases h with rfl | ⟨rfl, rfl⟩
  · exact ⟨_, av_eq t, rfl⟩
  · exact ⟨_, rfl, rfl⟩
theorem isT_sto {β : Type} {x : AV} {t : Tre} (h : isT x t) {H : List AObj} {b : Nat} {cs : List AV} {K : List AObj → List Nat → Option β} (hb : H[b]? = some (.row 5 [.agg cs])) (hc : cs.length = 5) : stoK 5 (.ptr b 1 0 0) x H K = K (H.set b (.row 5 [x])) [] := by
  rcases h with rfl | ⟨rfl, rfl⟩
  · exact sto_t hb hc
  · exact sto_zt hb hc rfl rfl rfl
theorem grown_J3 (l : List Pr) (hl : l.length ≤ 2^50) : ∀ (m i : Nat) (t : Bt) (x : AV) (E : List Nat), i + m = 60 → isT x t.tre → BInv t i →
    ref05_Grown_J3 0 (prsA l) (.ptr 0 1 0 0) (.ptr 1 1 0 0) (.int .i64 (i : Int)) [.row 5 [zTre], .row 5 [x]] E = some ((((l.take 60).drop i).foldl stepG t).tre.av, [], []) := by
  have fin : ∀ (t : Bt) (x : AV) (E : List Nat), isT x t.tre → ((loadA true 5 (.ptr 1 1 0 0) [.row 5 [zTre], .row 5 [x]]).bind fun a26 =>
      stoK 5 (.ptr 0 1 0 0) a26 [.row 5 [zTre], .row 5 [x]] fun H27 E27 =>
      (loadA true 5 (.ptr 0 1 0 0) H27).bind fun a28 =>
      endB false false 0 a28 H27 (E27 ++ E)) = some (t.tre.av, [], []) := fun t x E hx => by
    rw [isT_ld hx (b := 1) rfl, Option.bind_some, isT_sto hx (b := 0) rfl rfl]
    simp only [List.set_cons_zero]
    rw [isT_ld hx (b := 0) rfl, Option.bind_some]
    exact endB_frz (isT_frz hx _) (good_tr _)
  intro m
  induction m with
  | zero =>
    intro i t x E hi hx hv
    refine ref05_Grown_J3_of ?_
    have e2 : (l.take 60).drop i = [] := List.drop_eq_nil_of_le (by simp; omega)
    rw [e2]
    have e60 : ¬ ((i : Int) < 60) := by omega
    simp -implicitDefEqProofs only [lenV_prs, e60, ZS, ZT, Nat.reduceAdd]
    have := fin t x E hx
    split
    · exact this
    · exact this
  | succ m ih =>
    intro i t x E hi hx hv
    refine ref05_Grown_J3_of ?_
    have e60 : ((i : Int) < 60) := by omega
    by_cases hlt : i < l.length
    · have e1 : ((i : Int) < (l.length : Int)) := by omega
      have e2 : (l.take 60).drop i = l[i] :: (l.take 60).drop (i + 1) := by
        have hh : i < (l.take 60).length := by simp; omega
        rw [List.drop_eq_getElem_cons hh, List.getElem_take]
      have e3 : IntKind.i64.wrap ((i : Int) + 1) = ((i + 1 : Nat) : Int) := w64 (by omega) (by omega)
      rw [e2, List.foldl_cons]
      simp -implicitDefEqProofs only [lenV_prs, e1, e60, ixA_prs (List.getElem?_eq_getElem hlt), add_int, e3, ZS, ZT, Nat.reduceAdd]
      have skip : ¬ (l[i].key.length ≤ 80 ∧ l[i].value.length ≤ 1024) → ∀ E, ref05_Grown_J3 0 (prsA l) (.ptr 0 1 0 0) (.ptr 1 1 0 0) (.int .i64 ((i + 1 : Nat) : Int)) [.row 5 [zTre], .row 5 [x]] E = some ((((l.take 60).drop (i + 1)).foldl stepG (stepG t l[i])).tre.av, [], []) := fun h E => by
        have : stepG t l[i] = t := by unfold stepG; rw [if_neg h]
        rw [this]; exact ih (i + 1) t x E (by omega) hx (hv.mono (by omega))
      by_cases h1 : l[i].key.length ≤ 80
      · have h1' : ((l[i].key.length : Int) ≤ 80) := by omega
        rw [if_pos h1']
        by_cases h2 : l[i].value.length ≤ 1024
        · have h2' : ((l[i].value.length : Int) ≤ 1024) := by omega
          rw [if_pos h2', isT_ld hx (b := 1) rfl, Option.bind_some]
          have hd := hv.dp
          have P : callD (EV C) n_ref05_Put [x, bys l[i].key, bys l[i].value] [.row 5 [zTre], .row 5 [x]] = some (Bt.put l[i].key l[i].value t).tre.av :=
            callD_nil (bs := [t.tre.av, bys l[i].key, bys l[i].value]) (by simp [killsL, isT_kill hx, kills_good _ (good_bys _)]) (frzL_cons (isT_frz hx _) (frzL_cons (frz_good _ _ (good_bys _)) (frzL_cons (frz_good _ _ (good_bys _)) rfl))) (by simp [goodL]) (rPut_ok _ _ h1 h2 t hv.sml hv.bal (by omega))
          obtain ⟨cs, hcs, hlen⟩ := isT_agg hx
          rw [P, Option.bind_some, sto_t (b := 1) (cs := cs) (by rw [hcs]; rfl) hlen]
          simp -implicitDefEqProofs only [add_int, e3, ZS, ZT, Nat.reduceAdd]
          have es : stepG t l[i] = Bt.put l[i].key l[i].value t := by unfold stepG; rw [if_pos ⟨h1, h2⟩]
          have := ih (i + 1) (Bt.put l[i].key l[i].value t) (Bt.put l[i].key l[i].value t).tre.av (([] ++ []) ++ E) (by omega) (.inl rfl) (by rw [← es]; exact hv.step _)
          rw [es]
          exact this
        · have h2' : ¬ ((l[i].value.length : Int) ≤ 1024) := by omega
          rw [if_neg h2']
          exact skip (fun h => h2 h.2) E
      · have h1' : ¬ ((l[i].key.length : Int) ≤ 80) := by omega
        rw [if_neg h1']
        exact skip (fun h => h1 h.1) E
    · have e1 : ¬ ((i : Int) < (l.length : Int)) := by omega
      have e2 : (l.take 60).drop i = [] := List.drop_eq_nil_of_le (by simp; omega)
      rw [e2]
      simp -implicitDefEqProofs only [lenV_prs, e1, ZS, ZT, Nat.reduceAdd]
      exact fin t x E hx
theorem Grown_ok (l : List Pr) (hl : l.length ≤ 2^50) : EV C n_ref05_Grown [prsA l] [] = some ((grownF l).tre.av, [], []) := by
  refine ref05_Grown_of ?_
  simp -implicitDefEqProofs only [new_z, ZS, ZT, Nat.reduceAdd]
  rw [fill_nil, sto_zt (b := 1) rfl rfl rfl rfl rfl]
  exact grown_J3 l hl 60 0 .lf zTre _ (by omega) (.inr ⟨rfl, rfl⟩) binv_lf
end Go.Pm
namespace Go.Pm
open Go.Proofs
set_option linter.unusedVariables false
set_option linter.unusedSimpArgs false
theorem grown_facts (l : List Pr) : (grownF l).tre.ok ∧ formedF (grownF l).tre = true ∧ isF (grownF l).tre = true ∧ Srt (nodesF (grownF l).tre) ∧ (nodesF (grownF l).tre).length ≤ 60 := by
  have v := binv_grown l
  refine ⟨tre_ok v.sml, tre_formed v.sml, v.is (by omega), ?_, by rw [tre_len]; exact v.len⟩
  have : (nodesF (grownF l).tre).map pairT = (grownF l).toL := (tre_nodes _).1
  have h := v.srt
  rw [← this] at h
  unfold SrtP at h
  rw [List.pairwise_map] at h
  exact h
theorem agT51 : agT Tryd.prog 51 = true := by unfold agT; rw [Tryd.underlying51]
theorem ty_pr {B f : Nat} {cs : List AV} (h : tyC Tryd.prog B f 51 cs) : ∃ p : Pr, mkE (agT Tryd.prog 51) cs = p.av := by
  obtain ⟨f', css, rfl, h2⟩ := ty_struct Tryd.underlying51 h
  obtain ⟨c1, _, rfl, ⟨k1, _⟩, h2⟩ := forall2_1 h2
  obtain ⟨c2, _, rfl, ⟨k2, _⟩, h2⟩ := forall2_1 h2
  obtain rfl := forall2_0 h2
  obtain ⟨x, rfl, _⟩ := ty_bytesB k1
  obtain ⟨y, rfl, _⟩ := ty_bytesB k2
  exact ⟨⟨x, y⟩, by rw [agT51]; rfl⟩
theorem ty_prs {B f : Nat} {cs : List AV} {a : AV} (e : a = mkE (agT Tryd.prog 30) cs) (h : tyC Tryd.prog B f 30 cs) : ∃ l : List Pr, a = prsA l ∧ l.length * Tryd.prog.bytesOf 51 ≤ B := by
  obtain ⟨l, rfl, hl⟩ := ty_slice (g := Pr.av) Tryd.underlying30 h fun f cs h => ty_pr h
  exact ⟨l, by rw [e, agT_f Tryd.underlying30 rfl]; rfl, hl⟩
theorem prs_len {n : Nat} (h : n * Tryd.prog.bytesOf 51 ≤ reachBytes) : n ≤ 2^50 := by
  have e : Tryd.prog.bytesOf 51 = 48 := by kernel_rfl
  have r : reachBytes = 140737488351232 := rfl
  rw [e, r] at h
  omega
end Go.Pm
namespace Go.Pm
open Go.Proofs
set_option linter.unusedVariables false
set_option linter.unusedSimpArgs false
theorem gd_fit {w : Int} (hw : wOk w = true) (t : Tre) : Gd w t → t.fit := by
  have hw' : 1 ≤ w ∧ w ≤ 32 := by simpa [wOk] using hw
  induction t using Tre.ind with
  | h t ih =>
    intro hg
    by_cases h0 : t.kind = 0
    · have := hg.formed
      rw [formedF_eq, Bool.and_eq_true] at this
      have h1 := this.1
      unfold formed1 at h1
      rw [if_pos h0, decide_eq_true_eq] at h1
      have hk : t.kids = [] := List.eq_nil_of_length_eq_zero (by omega)
      exact (fit_eq t).2 ⟨by omega, by omega, by omega, by omega, fun k hk' => by rw [hk] at hk'; cases hk'⟩
    · by_cases h3 : t.kind = 3
      · have hf := hg.formed
        rw [formedF_eq, Bool.and_eq_true] at hf
        have h1 := hf.1
        unfold formed1 at h1
        rw [if_neg h0, if_neg (by omega), if_neg (by omega), if_pos h3, decide_eq_true_eq] at h1
        have ht := hg.told
        rw [told_cut w t h3] at ht
        have hd : (t.digest.length : Int) = w := Decidable.byContradiction fun hx => by rw [if_neg hx] at ht; cases ht
        have hk : t.kids = [] := List.eq_nil_of_length_eq_zero (by omega)
        exact (fit_eq t).2 ⟨by omega, by omega, by omega, by omega, fun k hk' => by rw [hk] at hk'; cases hk'⟩
      · obtain ⟨l, r, nd⟩ := hg.node h0 h3
        have hk := nd.kids
        have h4 := nd.key; have h5 := nd.value; have h6 := nd.pv
        have hd : t.digest.length ≤ 2^40 := by
          rcases nd.kind with h | h
          · have hf := hg.formed
            rw [formedF_eq, Bool.and_eq_true] at hf
            have h1 := hf.1
            unfold formed1 at h1
            rw [if_neg h0, if_pos h] at h1
            simp only [Bool.and_eq_true, decide_eq_true_eq] at h1
            omega
          · have : pv w t = t.digest := by unfold pv; rw [if_neg (by omega)]
            rw [this] at h6; omega
        refine (fit_eq t).2 ⟨by omega, by omega, hd, by rw [hk]; simp, fun k hk' => ?_⟩
        have hm := hk'
        rw [hk] at hk'
        simp only [List.mem_cons, List.not_mem_nil, or_false] at hk'
        rcases hk' with rfl | rfl
        · exact ih _ hm nd.gl
        · exact ih _ hm nd.gr
theorem Cel.wr {G : List AObj} {c : AV} (h : Cel G c) {l : Nat} {bs bs' : Bs} (hl : G[l]? = some (.row 1 (bs.map u8))) (hn : bs'.length = bs.length) : Cel (G.set l (.row 1 (bs'.map u8))) c := by
  rcases h with h | ⟨l', n, cs, h1, h2, h3, h4⟩
  · exact .inl h
  · by_cases e : l = l'
    · subst e
      rw [hl] at h2
      injection h2 with h2; injection h2 with _ h2
      have : cs.length = bs.length := by have := congrArg List.length h2; simpa using this.symm
      exact .inr ⟨l, n, bs', h1, List.getElem?_set_self (List.getElem?_eq_some_iff.1 hl).1, by omega, h4⟩
    · exact .inr ⟨l', n, cs, h1, by rw [List.getElem?_set_ne e]; exact h2, h3, h4⟩
theorem set_ne1 {G : List AObj} {l o z : Nat} {es bs : List AV} {X : AObj} (hl : G[l]? = some (.row 1 bs)) (ho : G[o]? = some (.row z es)) (hz : z ≠ 1) : (G.set l X)[o]? = some (.row z es) := by
  rw [List.getElem?_set_ne]
  · exact ho
  · intro e; subst e; rw [hl] at ho; simp at ho; exact hz ho.1.symm
theorem ix_row1 {H : List AObj} {m n i : Nat} {es : List AV} (h : H[m]? = some (.row 1 es)) (hn : es.length = n) (hi : i < n) : ixA 1 (.slc m 0 n n) (.int .i64 (i : Int)) H = some (.ptr m n i 0) := by
  simp [ixA, indexA, h, hn]; omega
theorem ld_row1 {H : List AObj} {m n i : Nat} {l : List UInt8} (h : H[m]? = some (.row 1 (l.map u8))) (hn : l.length = n) (hi : i < l.length) : loadA false 1 (.ptr m n i 0) H = some (u8 l[i]) := by
  simp [loadA, h, hn, ldv, List.getElem?_eq_getElem hi, AV.cells, u8]
theorem sto_u8 {H : List AObj} {m n i : Nat} {l : List UInt8} {v : UInt8} {K : List AObj → List Nat → Option R3} (h : H[m]? = some (.row 1 (l.map u8))) (hn : l.length = n) (hi : i < l.length) : stoK 1 (.ptr m n i 0) (u8 v) H K = K (H.set m (.row 1 ((l.set i v).map u8))) [] := by
  have h2 : storeA 1 (.ptr m n i 0) (u8 v) H = some (H.set m (.row 1 ((l.set i v).map u8)), []) := by
    simp [storeA, h, hn, List.getElem?_eq_getElem hi, AV.cells, u8, setC, set1, AV.one, escs, belL, AV.bel, List.map_set]
  unfold stoK; rw [h2]; rfl
theorem add_u8 (x : UInt8) : ∃ v : UInt8, binA .add (Go.TypeDesc.int Go.IntKind.u8) (cmpT Tryd.prog) true (u8 x) (.int .u8 1) = some (u8 v) := by
  refine ⟨UInt8.ofNat (x.toNat + 1), ?_⟩
  rw [show u8 x = .int .u8 (x.toNat : Int) from rfl, add_int]
  congr 1
theorem lenV_sl1 {H : List AObj} {m n : Nat} {es : List AV} (h : H[m]? = some (.row 1 es)) (hn : es.length = n) : lenV (.slc m 0 n n) H = some (.int .i64 (n : Int)) := by simp [lenV, lenA, lenOf, h, hn]
section
variable {s : Spn} {t q : Tre} {o : Nat} {vals : List AV} {root : Bs}
end
end Go.Pm
