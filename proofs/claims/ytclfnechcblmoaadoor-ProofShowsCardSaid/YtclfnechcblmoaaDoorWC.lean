/- The law ProofShows. -/
import Derived.Test.YtclfnechcblmoaaDoorWB
namespace Go.Pm
open Go.Proofs
set_option linter.unusedVariables false
set_option linter.unusedSimpArgs false
theorem callD_nil {env : Env} {g : FuncId} {args bs : List AV} {H : List AObj} {v : AV} (hk : killsL args = []) (h0 : frzL H args = some bs) (h1 : goodL bs = true) (h3 : env g bs [] = some (v, [], [])) :
    callD env g args H = some v := by
  simp [callD, h0, belL_good 0 bs h1, h3, hk]
abbrev zTre : AV := .agg [(.int .i64 0), .nils, .nils, .nils, .nils]
theorem litK_kids2 {β : Type} (x y : Tre) (H : List AObj) (K : AV → List AObj → List Nat → Option β) : litK 5 2 (.agg [(.int .i64 0), .nils, .nils, .nils, .nils]) [(0, x.av), (1, y.av)] H K = K (kidsA [x, y]) H [] := by
  have e2 : frzL H [x.av, y.av] = some [x.av, y.av] := frzL_cons (frz_good _ _ (good_tr x)) (frzL_cons (frz_good _ _ (good_tr y)) rfl)
  have e1 : killsL [x.av, y.av] = [] := by simp [killsL, kills_good _ (good_tr x), kills_good _ (good_tr y)]
  have e3 : ∀ (t : Tre), t.av.cells.length = 5 ∧ t.av.cells.all AV.one = true := fun t => by rw [cells_tr]; exact ⟨rfl, rfl⟩
  unfold litK
  simp only [List.map_cons, List.map_nil]
  rw [e2, Option.bind_some, frz_nil0, Option.bind_some, e1]
  simp only [List.zip_cons_cons, List.zip_nil_right, setS, (e3 _).1, (e3 _).2, List.length_replicate, List.length_set, List.replicate, List.set_cons_zero, List.set_cons_succ, List.length_cons, List.length_nil]
  rfl
theorem rNode5_ok (l r : Tre) (k v : Bs) : EV C n_ref05_Node [l.av, bys k, bys v, r.av] [] = some ((Tre.mk 1 k v [] [l, r]).av, [], []) := by
  refine ref05_Node_of ?_
  simp -implicitDefEqProofs only [new_z, ZS, ZT, Nat.reduceAdd]
  rw [litK_kids2, fill_in, sto_zt (b := 2) rfl rfl rfl (by simp [AV.one, bys, kidsA]) (by simp [escs, belL, AV.bel, bel_good _ _ (good_bys _), bel_good _ _ (good_kids _)]), ld_agg (l := 2) (z := 5) rfl rfl, Option.bind_some]
  exact endB_frz (frz_in _ _ _ _ _) (good_tr _)
theorem kills_z (l : List AV) : killsL (zTre :: l) = killsL l := by simp [killsL, kills]
theorem Put1_ok (k v : Bs) : EV C n_ref05_Put [Tre.nil.av, bys k, bys v] [] = some ((Tre.mk 1 k v [] [Tre.nil, Tre.nil]).av, [], []) := by
  refine ref05_Put_of ?_
  simp -implicitDefEqProofs only [new_z, ZS, ZT, Nat.reduceAdd]
  rw [if_pos (show ((Tre.nil.kids.length : Nat) : Int) = 0 from rfl), fill_nil, fill_nil]
  rw [callK_nil (bs := [Tre.nil.av, bys k, bys v, Tre.nil.av]) (by simp [killsL, kills, kills_good _ (good_bys _)]) (frzL_cons (frz_nil0 _) (frzL_cons (frz_good _ _ (good_bys _)) (frzL_cons (frz_good _ _ (good_bys _)) (frzL_cons (frz_nil0 _) rfl)))) (by simp [goodL]) (rNode5_ok _ _ k v), sto_t (b := 1) rfl rfl]
  simp -implicitDefEqProofs only [ZS, ZT, Nat.reduceAdd]
  exact endB_good (good_tr _)
def oneT : Tre := .mk 1 [97] [] [] [Tre.nil, Tre.nil]
theorem Grown1_ok : EV C n_ref05_Grown [prsA [⟨[97], []⟩]] [] = some (oneT.av, [], []) := by
  refine ref05_Grown_of ?_
  simp -implicitDefEqProofs only [new_z, ZS, ZT, Nat.reduceAdd]
  rw [fill_nil, sto_zt (b := 1) rfl rfl rfl rfl rfl]
  have ix0 : ∀ H, ixA 2 (prsA [⟨[97], []⟩]) (.int .i64 0) H = some (.ip [bys [97], bys []]) := fun H => ixA_prs (i := 0) (p := ⟨[97], []⟩) rfl
  have cp : ∀ H, callD (EV C) n_ref05_Put [zTre, bys [97], bys []] H = some oneT.av := fun H => callD_nil (bs := [Tre.nil.av, bys [97], bys []]) (by simp [killsL, kills, kills_good _ (good_bys _)]) (frzL_cons (frz_nil0 _) (frzL_cons (frz_good _ _ (good_bys _)) (frzL_cons (frz_good _ _ (good_bys _)) rfl))) (by simp [goodL]) (Put1_ok _ _)
  have lz1 : ∀ (o0 : AObj) (T : List AObj), loadA true 5 (.ptr 1 1 0 0) (o0 :: .row 5 [zTre] :: T) = some zTre := fun o0 T => Eq.trans rfl rfl
  refine ref05_Grown_J3_of ?_
  simp -implicitDefEqProofs only [lenV_prs, ix0, cp, lz1, show (((1 : Nat) : Int)) = 1 from rfl, show ((0 : Int) < 1) from by decide, show ((0 : Int) < 60) from by decide, show ((1 : Int) ≤ 80) from by decide, show (((0 : Nat) : Int) ≤ 1024) from by decide, add_int, show IntKind.i64.wrap (0 + 1) = 1 from rfl, ZS, ZT, Nat.reduceAdd]
  rw [sto_t (b := 1) rfl rfl]
  refine ref05_Grown_J3_of ?_
  simp -implicitDefEqProofs only [lenV_prs, show (((1 : Nat) : Int)) = 1 from rfl, show ¬ ((1 : Int) < 1) from by decide, ZS, ZT, Nat.reduceAdd]
  rw [sto_t (b := 0) rfl rfl]
  simp -implicitDefEqProofs only [ZS, ZT, Nat.reduceAdd]
  exact endB_good (good_tr _)
/-! ### Same -/
theorem sameT_self (t : Tre) : t.ok → EV C n_ref04_Same [t.av, t.av] [] = some (.bool true, [], []) := by
  induction t using Tre.ind with
  | h t ih =>
    intro ht
    obtain ⟨_, _, _, hk, hks⟩ := (ok_eq t).1 ht
    have loop : ∀ (m i : Nat) (E : List Nat), i + m = t.kids.length → ref04_Same_J4 0 (.ptr 0 1 0 0) (.ptr 1 1 0 0) (.int .i64 (i : Int)) [.row 5 [t.av], .row 5 [t.av]] E = some (.bool true, [], []) := by
      intro m
      induction m with
      | zero =>
        intro i E h
        refine ref04_Same_J4_of ?_
        have e1 : ¬ ((i : Int) < (t.kids.length : Int)) := by omega
        simp -implicitDefEqProofs only [e1, ZS, ZT, Nat.reduceAdd]
        exact endB_good rfl
      | succ m ihm =>
        intro i E h
        refine ref04_Same_J4_of ?_
        have hi : i < t.kids.length := by omega
        have e1 : ((i : Int) < (t.kids.length : Int)) := by omega
        have e3 : IntKind.i64.wrap ((i : Int) + 1) = ((i + 1 : Nat) : Int) := w64 (by omega) (by omega)
        have cs : ∀ H, callD (EV C) n_ref04_Same [t.kids[i].av, t.kids[i].av] H = some (.bool true) := fun H => callD_ok (by simp [goodL]) (ih _ (List.getElem_mem hi) (hks _ (List.getElem_mem hi)))
        simp -implicitDefEqProofs only [e1, ixA_kids (List.getElem?_eq_getElem hi), cs, add_int, e3, ZS, ZT, Nat.reduceAdd]
        exact ihm (i + 1) E (by omega)
    refine ref04_Same_of ?_
    simp -implicitDefEqProofs only [ne_eq, not_true_eq_false, ZS, ZT, Nat.reduceAdd]
    exact loop t.kids.length 0 _ (by omega)
end Go.Pm

/- The law ProofShows: the examples, the document's Is, the law. -/
namespace Go.Pm
open Go.Proofs
set_option linter.unusedVariables false
set_option linter.unusedSimpArgs false
/-! ### up -/
theorem one_is : isF oneT = true := by kernel_rfl
theorem one_show : showF 1 ⟨[], [], true⟩ oneT = oneT := by kernel_rfl
theorem one_ok : oneT.ok := by simp [oneT, Tre.nil, Tre.ok, okL]
theorem one_nodes : (nodesF oneT).length = 1 := by kernel_rfl
theorem prove_one : proveF 1 oneT ⟨[], [], true⟩ = (0, oneT) := by
  unfold proveF
  rw [if_neg (by decide), if_neg (by rw [one_is]; decide), one_show]
theorem prove_bad : proveF 0 oneT ⟨[], [], false⟩ = (1, Tre.nil) := by
  unfold proveF
  rw [if_pos (by decide)]
theorem eq_a : binA .eql Go.TypeDesc.string (cmpT Tryd.prog) true (.str ⟨([97] : Bs).toArray⟩) (.str { data := #[97] }) = some (.bool true) := by kernel_rfl
theorem up7_ok : EV C n_law07_up [] [] = some (.bool true, [], []) := by
  refine law07_up_of ?_
  have r1 : ∀ (K : AV → List AObj → List Nat → Option R3), rawK 1 1 (.int .u8 0) [(0, (.int .u8 97))] [] K = K (.slc 0 0 1 1) [.row 1 [.int .u8 97]] [] := fun K => rfl
  have r2 : ∀ (K : AV → Option R3), (cvR (.slc 0 0 1 1) [.row 1 [.int .u8 97]]).bind K = K (.slc 0 0 1 1) := fun K => rfl
  have r3 : ∀ (K : List AV → Option R3), (fillB (AV.cells (.agg [.nils, .nils])) [(0, 1, .slc 0 0 1 1)]).bind K = K [.slc 0 0 1 1, .nils] := fun K => rfl
  have r4 : ∀ (K : AV → List AObj → List Nat → Option R3), litK 2 1 (.agg [.nils, .nils]) [(0, (.agg [.slc 0 0 1 1, .nils]))] [.row 1 [.int .u8 97]] K = K (prsA [⟨[97], []⟩]) [.dead] [] := fun K => rfl
  have f1 : ∀ (K : List AV → Option R3), (fillB (AV.cells (.agg [.nils, .nils, (.bool false)])) [(2, 1, (.bool true))]).bind K = K [.nils, .nils, .bool true] := fun K => rfl
  have f2 : ∀ (K : List AV → Option R3), (fillB (AV.cells (.agg [.nils, .nils, (.bool false)])) []).bind K = K [.nils, .nils, .bool false] := fun K => rfl
  have z1 : ∀ H, frz H (.agg [.nils, .nils, .bool true]) = some (Spn.av ⟨[], [], true⟩) := fun H => rfl
  have z2 : ∀ H, frz H (.agg [.nils, .nils, .bool false]) = some (Spn.av ⟨[], [], false⟩) := fun H => rfl
  simp only [r1, r2, r3, r4]
  rw [callK_ok (by simp [goodL]) Grown1_ok]
  simp only [new_z, f1, f2, List.length_nil, List.length_cons, List.cons_append, List.nil_append]
  rw [sto_t (b := 1) rfl rfl]
  simp only [List.set_cons_succ, List.set_cons_zero]
  rw [ld_box (b := 1) rfl, Option.bind_some]
  rw [callK_nil (bs := [.int .i64 1, oneT.av, Spn.av ⟨[], [], true⟩]) (by simp [killsL, kills, kills_good _ (good_tr oneT)]) (frzL_cons rfl (frzL_cons (frz_good _ _ (good_tr _)) (frzL_cons (z1 _) rfl))) (by simp [goodL, AV.good]) (Prove_ok 1 ⟨[], [], true⟩ oneT one_ok (by rw [one_nodes]; decide)), prove_one]
  simp -implicitDefEqProofs only [resP, new_z, ZS, ZT, Nat.reduceAdd]
  rw [sto_t (b := 2) rfl rfl]
  simp only [List.set_cons_succ, List.set_cons_zero]
  rw [ld_box (b := 1) rfl, Option.bind_some]
  rw [callK_nil (bs := [.int .i64 0, oneT.av, Spn.av ⟨[], [], false⟩]) (by simp [killsL, kills, kills_good _ (good_tr oneT)]) (frzL_cons rfl (frzL_cons (frz_good _ _ (good_tr _)) (frzL_cons (z2 _) rfl))) (by simp [goodL, AV.good]) (Prove_ok 0 ⟨[], [], false⟩ oneT one_ok (by rw [one_nodes]; decide)), prove_bad]
  simp -implicitDefEqProofs only [resP, new_z, ZS, ZT, Nat.reduceAdd]
  rw [sto_t (b := 3) rfl rfl]
  have k2 : ∀ (o0 o1 : AObj) (T : List AObj), loadA false 1 (.ptr 2 1 0 0) (o0 :: o1 :: .row 5 [oneT.av] :: T) = some (.int .i64 1) := fun o0 o1 T => (ldb_k (b := 2) (t := oneT) rfl : loadA false 1 (.ptr 2 1 0 0) (o0 :: o1 :: .row 5 [oneT.av] :: T) = some (.int .i64 oneT.kind))
  have k3 : ∀ (o0 o1 : AObj) (T : List AObj), loadA false 1 (.ptr 2 1 0 1) (o0 :: o1 :: .row 5 [oneT.av] :: T) = some (bys [97]) := fun o0 o1 T => (ldb_a (b := 2) (t := oneT) rfl : loadA false 1 (.ptr 2 1 0 1) (o0 :: o1 :: .row 5 [oneT.av] :: T) = some (bys oneT.key))
  simp -implicitDefEqProofs only [eqlE0, k2, k3, eq_a, eqlE _ _ _ (show (1 : Int) ≠ 0 by decide), ZS, ZT, Nat.reduceAdd]
  exact endB_good rfl
/-! ### the document's Is -/
theorem is_loop (t : Tre) (l : List Tre) (hl : l.length ≤ 2^40) (ho : ∀ k ∈ l, k.ok ∧ formedF k = true ∧ (nodesF k).length ≤ 2^40 ∧ ∃ a b, k.kids = [a, b]) : ∀ (m i : Nat) (E : List Nat), l.length ≤ i + m →
    ref05_Is_J8 0 (kidsA l) (.int .i64 (i : Int)) [.row 5 [t.av]] E = some (.bool ((if i = 0 then risN l else risN (l.drop (i - 1))) && (l.drop i).all balN), [], []) := by
  intro m
  induction m with
  | zero =>
    intro i E h
    refine ref05_Is_J8_of ?_
    have e1 : ¬ ((i : Int) < (l.length : Int)) := by omega
    have e2 : l.drop i = [] := List.drop_eq_nil_of_le (by omega)
    have e3 : (if i = 0 then risN l else risN (l.drop (i - 1))) = true := by
      have key : ∀ l' : List Tre, l'.length ≤ 1 → risN l' = true := fun l' h => by
        rcases l' with _ | ⟨a, _ | ⟨b, x⟩⟩
        · rfl
        · rfl
        · simp at h
      split
      · exact key _ (by omega)
      · exact key _ (by simp; omega)
    rw [e3, e2]
    simp -implicitDefEqProofs only [e1, List.all_nil, ZS, ZT, Nat.reduceAdd]
    exact endB_good rfl
  | succ m ih =>
    intro i E h
    by_cases hlt : i < l.length
    · refine ref05_Is_J8_of ?_
      obtain ⟨ok, hf, hn, a, b, hk⟩ := ho _ (List.getElem_mem hlt)
      have e1 : ((i : Int) < (l.length : Int)) := by omega
      have e2 : l.drop i = l[i] :: l.drop (i + 1) := List.drop_eq_getElem_cons hlt
      have e3 : IntKind.i64.wrap ((i : Int) + 1) = ((i + 1 : Nat) : Int) := w64 (by omega) (by omega)
      have ha : a ∈ l[i].kids := by rw [hk]; simp
      have hb : b ∈ l[i].kids := by rw [hk]; simp
      have hks := ((ok_eq _).1 ok).2.2.2.2
      have nt := nodes_two hk
      have na : dpF a ≤ 2^40 := by have := dp_nodes a (formed_kids hf a ha); rw [nt, List.length_append] at hn; omega
      have nb : dpF b ≤ 2^40 := by have := dp_nodes b (formed_kids hf b hb); rw [nt, List.length_append, List.length_cons] at hn; omega
      have x0 : ∀ H, ixA 5 (kidsA l[i].kids) (.int .i64 0) H = some (.ip a.av.cells) := fun H => ixA_kids (i := 0) (by rw [hk]; rfl)
      have x1 : ∀ H, ixA 5 (kidsA l[i].kids) (.int .i64 1) H = some (.ip b.av.cells) := fun H => ixA_kids (i := 1) (by rw [hk]; rfl)
      have da : ∀ H, callD (EV C) n_ref04_Depth [a.av] H = some (.int .i64 (dpF a : Int)) := fun H => callD_ok (by simp [goodL]) (rDepth_ok a (hks a ha) (formed_kids hf a ha) na)
      have db : ∀ H, callD (EV C) n_ref04_Depth [b.av] H = some (.int .i64 (dpF b : Int)) := fun H => callD_ok (by simp [goodL]) (rDepth_ok b (hks b hb) (formed_kids hf b hb) nb)
      have e4 : IntKind.i64.wrap ((dpF a : Int) - (dpF b : Int)) = (dpF a : Int) - (dpF b : Int) := by rw [wrap64] <;> omega
      have dr4 : List.drop 4 l[i].av.cells = [kidsA l[i].kids] := by rw [cells_tr]; rfl
      have bal : balN l[i] = (decide (dpF a ≤ dpF b + 1) && decide (dpF b ≤ dpF a + 1)) := by unfold balN; rw [hk]
      have nxt := ih (i + 1) E (by omega)
      rw [if_neg (by omega), Nat.add_sub_cancel] at nxt
      rw [e2, List.all_cons, bal]
      -- what comes behind the keys
      have fin : ∀ r : Bool, (risN (l.drop i) = r) → condK (.bool (decide (1 < (dpF a : Int) - (dpF b : Int)))) (endB false false 0 (.bool false) [.row 5 [t.av]] E)
          (condK (.bool (decide ((dpF a : Int) - (dpF b : Int) < -1))) (endB false false 0 (.bool false) [.row 5 [t.av]] E) (ref05_Is_J8 0 (kidsA l) (.int .i64 ((i + 1 : Nat) : Int)) [.row 5 [t.av]] E)) =
          some (.bool (r && (decide (dpF a ≤ dpF b + 1) && decide (dpF b ≤ dpF a + 1) && (l.drop (i + 1)).all balN)), [], []) := fun r hr => by
        by_cases h1 : dpF a ≤ dpF b + 1
        · have h1' : ¬ (1 < (dpF a : Int) - (dpF b : Int)) := by omega
          by_cases h2 : dpF b ≤ dpF a + 1
          · have h2' : ¬ ((dpF a : Int) - (dpF b : Int) < -1) := by omega
            simp only [h1', h2', decide_false, condK_f, h1, h2, decide_true, Bool.true_and]
            rw [nxt, hr]
          · have h2' : ((dpF a : Int) - (dpF b : Int) < -1) := by omega
            simp only [h1', h2', decide_false, decide_true, condK_f, condK_t, h1, h2, Bool.false_and, Bool.and_false]
            exact endB_good rfl
        · have h1' : (1 < (dpF a : Int) - (dpF b : Int)) := by omega
          simp only [h1', decide_true, condK_t, h1, decide_false, Bool.false_and, Bool.and_false]
          exact endB_good rfl
      by_cases hi : i = 0
      · subst hi
        have g : ¬ ((0 : Int) < ((0 : Nat) : Int)) := by omega
        simp -implicitDefEqProofs only [e1, g, ixA_kids (List.getElem?_eq_getElem hlt), dr4, x0, x1, da, db, sub_int, add_int, e3, e4, ZS, ZT, Nat.reduceAdd]
        have := fin (risN (l.drop 0)) rfl
        simpa [condK_dec, splitK_dec] using this
      · obtain ⟨j, rfl⟩ : ∃ j, i = j + 1 := ⟨i - 1, by omega⟩
        have g : ((0 : Int) < ((j + 1 : Nat) : Int)) := by omega
        have hj : j < l.length := by omega
        have e5 : IntKind.i64.wrap (((j + 1 : Nat) : Int) - 1) = ((j : Nat) : Int) := w64 (by omega) (by omega)
        rw [if_neg (by omega), Nat.add_sub_cancel, risN_drop hlt]
        simp -implicitDefEqProofs only [e1, g, e5, ixA_kids (List.getElem?_eq_getElem hlt), ixA_kids (List.getElem?_eq_getElem hj), dr_tr1, dr4, x0, x1, da, db, sub_int, add_int, e3, e4, geq_str, ZS, ZT, Nat.reduceAdd]
        cases hc : ltB l[j].key l[j + 1].key with
        | false =>
          simp -implicitDefEqProofs only [Bool.false_and, ZS, ZT, Nat.reduceAdd]
          exact endB_good rfl
        | true =>
          simp -implicitDefEqProofs only [Bool.true_and, ixA_kids (List.getElem?_eq_getElem hlt), dr4, x0, x1, da, db, sub_int, add_int, e3, e4, ZS, ZT, Nat.reduceAdd]
          have := fin (risN (l.drop (j + 1))) rfl
          simpa [condK_dec, splitK_dec] using this
    · have h' : l.length ≤ i := by omega
      refine ref05_Is_J8_of ?_
      have e1 : ¬ ((i : Int) < (l.length : Int)) := by omega
      have e2 : l.drop i = [] := List.drop_eq_nil_of_le (by omega)
      have e3 : (if i = 0 then risN l else risN (l.drop (i - 1))) = true := by
        have key : ∀ l' : List Tre, l'.length ≤ 1 → risN l' = true := fun l' h => by
          rcases l' with _ | ⟨a, _ | ⟨b, x⟩⟩
          · rfl
          · rfl
          · simp at h
        split
        · exact key _ (by omega)
        · exact key _ (by simp; omega)
      rw [e3, e2]
      simp -implicitDefEqProofs only [e1, List.all_nil, ZS, ZT, Nat.reduceAdd]
      exact endB_good rfl
end Go.Pm

/- The law ProofShows. -/
namespace Go.Pm
open Go.Proofs
set_option linter.unusedVariables false
set_option linter.unusedSimpArgs false
theorem refIs_ok (t : Tre) (ht : t.ok) (hn : (nodesF t).length ≤ 2^40) : EV C n_ref05_Is [t.av] [] = some (.bool (isF t), [], []) := by
  refine ref05_Is_of ?_
  simp -implicitDefEqProofs only [ZS, ZT, Nat.reduceAdd]
  rw [callK_ok (by simp) (rCheck_ok t ht)]
  unfold isF
  by_cases hc : checkF t = 0
  · have hf := check_formed hc
    simp -implicitDefEqProofs only [hc, ne_eq, not_true_eq_false, ZS, ZT, Nat.reduceAdd]
    rw [callK_ok (by simp) (rFull_ok t ht hf)]
    cases hfl : fullF t with
    | false => simp -implicitDefEqProofs only [Bool.and_false, Bool.false_and, ZS, ZT, Nat.reduceAdd]; exact endB_good rfl
    | true =>
      simp -implicitDefEqProofs only [Bool.true_and, ZS, ZT, Nat.reduceAdd]
      rw [callK_ok (by simp) (rList_ok t ht hf hn)]
      have ho : ∀ k ∈ nodesF t, k.ok ∧ formedF k = true ∧ (nodesF k).length ≤ 2^40 ∧ ∃ a b, k.kids = [a, b] := fun k hk => by
        obtain ⟨a1, a2, a3⟩ := nodes_sub t ht hf k hk
        obtain ⟨_, _, _, a4⟩ := nodes_small t hf k hk
        exact ⟨a1, a2, by omega, a4⟩
      refine (is_loop t (nodesF t) hn ho (nodesF t).length 0 _ (by omega)).trans ?_
      rw [if_pos rfl, List.drop_zero, even_bal t hf]
  · simp -implicitDefEqProofs only [hc, ne_eq, not_false_eq_true, Bool.false_and, ZS, ZT, Nat.reduceAdd]
    exact endB_good rfl
theorem cut_okT {w : Int} (hw : wOk w = true) {t : Tre} (h : Gd w t) : (cutT w t).ok := by
  unfold cutT
  split
  · exact nil_ok
  · have := h.len hw
    have hw' : 1 ≤ w ∧ w ≤ 32 := by simpa [wOk] using hw
    exact tcut_ok (by omega)
theorem show_okT {w : Int} (hw : wOk w = true) (s : Spn) (t : Tre) : Gd w t → fullF t = true → (showF w s t).ok := by
  have hw' : 1 ≤ w ∧ w ≤ 32 := by simpa [wOk] using hw
  induction t using Tre.ind with
  | h t ih =>
    intro hg hfl
    rcases full_kind hg.formed hfl with ⟨h0, hk⟩ | ⟨h1, l0, r0, hk0⟩
    · rw [show_leaf w s hk]; exact nil_ok
    · obtain ⟨l, r, nd⟩ := hg.node (by omega) (by omega)
      have hk := nd.kids
      have hl : l ∈ t.kids := by rw [hk]; simp
      have hr : r ∈ t.kids := by rw [hk]; simp
      have hfa : fullF l = true ∧ fullF r = true := by
        rw [full_eq, Bool.and_eq_true, List.all_eq_true] at hfl
        exact ⟨hfl.2 l hl, hfl.2 r hr⟩
      have a := ih l hl nd.gl hfa.1
      have b := ih r hr nd.gr hfa.2
      have c := cut_okT hw nd.gl
      have d := cut_okT hw nd.gr
      have e : ((ofF w (0 :: t.value)).length : Int) = w := ofF_len hw _
      have k1 := nd.key; have k2 := nd.value
      rw [show_two w s hk]
      split
      · simp only [Tre.ok, okL, List.length_nil, List.length_cons]
        exact ⟨by omega, by omega, by omega, by omega, a, b, trivial⟩
      · split
        · simp only [Tre.ok, okL, List.length_nil, List.length_cons]
          exact ⟨by omega, by omega, by omega, by omega, c, b, trivial⟩
        · simp only [Tre.ok, okL, List.length_nil, List.length_cons]
          exact ⟨by omega, by omega, by omega, by omega, a, d, trivial⟩
theorem ProofShows_ok (w : Int) (t : Tre) (s : Spn) (ht : t.ok) : EV C n_law07_ProofShows [.int .i64 w, t.av, s.av] [] = some (.bool true, [], []) := by
  refine law07_ProofShows_of ?_
  simp -implicitDefEqProofs only [new_sp, ZS, ZT, Nat.reduceAdd]
  rw [callK_ok rfl up7_ok]
  simp -implicitDefEqProofs only [ZS, ZT, Nat.reduceAdd]
  rw [callK_ok (by simp) (Light_ok t ht 200 100 (by decide) (by decide) (by decide) (by decide))]
  simp -implicitDefEqProofs only [ZS, ZT, Nat.reduceAdd]
  by_cases hs : lightF t 200 100 < 0
  · rw [if_pos hs]; exact endB_good rfl
  · rw [if_neg hs]
    have hp := lightF_parts t 200 100 (by omega)
    have hn0 := nodes_parts t
    have hn : (nodesF t).length ≤ 2^40 := by omega
    simp -implicitDefEqProofs only [ld_sp1, ZS, ZT, Nat.reduceAdd]
    rw [callK_ok (by simp) (Prove_ok w s t ht hn)]
    simp -implicitDefEqProofs only [resP, new_z, ZS, ZT, Nat.reduceAdd]
    rw [sto_t (b := 2) rfl rfl]
    have sn : ∀ H, frz H (.agg [(.int .i64 0), .nils, .nils, .nils, .nils]) = some Tre.nil.av := fun H => frz_nil0 H
    by_cases h1 : w < 1
    · have e : proveF w t s = (1, Tre.nil) := by unfold proveF; rw [if_pos (by simp [wOk]; omega)]
      rw [e]
      simp -implicitDefEqProofs only [h1, eqlE _ _ _ (show (1 : Int) ≠ 0 by decide), fill_nil, ZS, ZT, Nat.reduceAdd]
      rw [callK_nil (bs := [Tre.nil.av, Tre.nil.av]) (by simp [killsL, kills, kills_good _ (good_tr Tre.nil)]) (frzL_cons (frz_good _ _ (good_tr _)) (frzL_cons (sn _) rfl)) (by simp [goodL]) (sameT_self _ nil_ok)]
      exact endB_good rfl
    · rw [if_neg h1]
      by_cases h2 : 32 < w
      · have e : proveF w t s = (1, Tre.nil) := by unfold proveF; rw [if_pos (by simp [wOk]; omega)]
        rw [e]
        simp -implicitDefEqProofs only [h2, eqlE _ _ _ (show (1 : Int) ≠ 0 by decide), fill_nil, ZS, ZT, Nat.reduceAdd]
        rw [callK_nil (bs := [Tre.nil.av, Tre.nil.av]) (by simp [killsL, kills, kills_good _ (good_tr Tre.nil)]) (frzL_cons (frz_good _ _ (good_tr _)) (frzL_cons (sn _) rfl)) (by simp [goodL]) (sameT_self _ nil_ok)]
        exact endB_good rfl
      · have hw : wOk w = true := by simp [wOk]; omega
        rw [if_neg h2]
        simp -implicitDefEqProofs only [ZS, ZT, Nat.reduceAdd]
        rw [callK_ok (by simp) (refIs_ok t ht hn)]
        cases hi : isF t with
        | false =>
          have e : proveF w t s = (3, Tre.nil) := by unfold proveF; rw [if_neg (by simp [hw]), if_pos hi]
          rw [e]
          simp -implicitDefEqProofs only [eqlE _ _ _ (show (3 : Int) ≠ 0 by decide), fill_nil, ZS, ZT, Nat.reduceAdd]
          rw [callK_nil (bs := [Tre.nil.av, Tre.nil.av]) (by simp [killsL, kills, kills_good _ (good_tr Tre.nil)]) (frzL_cons (frz_good _ _ (good_tr _)) (frzL_cons (sn _) rfl)) (by simp [goodL]) (sameT_self _ nil_ok)]
          exact endB_good rfl
        | true =>
          obtain ⟨gd, hfl⟩ := is_gd hw ht hi
          have e : proveF w t s = (0, showF w s t) := by unfold proveF; rw [if_neg (by simp [hw]), if_neg (by simp [hi])]
          have mk : ∀ H, callD (EV C) n_ref01_Made [] H = some tabF := fun H => callD_ok rfl Made_ok
          have rp : ∀ H, callD (EV C) n_ref07_Prove [tabF, .int .i64 w, t.av, s.av] H = some (showF w s t).av := fun H => callD_ok (by simp [goodL, AV.good, good_tab]) (rProve_ok w s hw t gd hfl)
          have sm : ∀ H, callD (EV C) n_ref04_Same [(showF w s t).av, (showF w s t).av] H = some (.bool true) := fun H => callD_ok (by simp [goodL]) (sameT_self _ (show_okT hw s t gd hfl))
          rw [e]
          simp -implicitDefEqProofs only [eqlE0, ld_sp1, mk, rp, sm, ZS, ZT, Nat.reduceAdd]
          exact endB_good rfl
theorem proofShows_law {a b c : AV} {f f1 f2 : Nat} {l l1 l2 : List AV} (e : a = mkE (agT Tryd.prog 3) l) (h : tyC Tryd.prog reachBytes f 3 l) (e1 : b = mkE (agT Tryd.prog 27) l1) (h1 : tyC Tryd.prog reachBytes f1 27 l1)
    (e2 : c = mkE (agT Tryd.prog 24) l2) (h2 : tyC Tryd.prog reachBytes f2 24 l2) : EV C n_law07_ProofShows [a, b, c] [] = some (.bool true, [], []) := by
  obtain ⟨w, rfl⟩ := ty_i64' e h
  obtain ⟨t, rfl, ht⟩ := ty_tre' (by decide) e1 h1
  obtain ⟨s, rfl⟩ := ty_spn e2 h2
  exact ProofShows_ok w t s ht
end Go.Pm
