/- A part of the proof: what the functions of the program answer, as plain lists and numbers. -/
import Derived.Test.YtclfnechcblmoaaDoorP35
import Derived.Test.YtclfnechcblmoaaDoorP36
namespace Go.Pm
open Go.Proofs
set_option linter.unusedVariables false
set_option linter.unusedSimpArgs false
def stepG (t : Bt) (p : Pr) : Bt := if p.key.length ≤ 80 ∧ p.value.length ≤ 1024 then Bt.put p.key p.value t else t
def grownF (l : List Pr) : Bt := (l.take 60).foldl stepG .lf
structure BInv (t : Bt) (n : Nat) : Prop where
  sml : t.sml
  bal : t.bal
  srt : SrtP t.toL
  len : t.toL.length ≤ n
theorem bt_dp_len : ∀ t : Bt, t.dp ≤ t.toL.length
  | .lf => Nat.le_refl _
  | .nd l k v r => by
    have a := bt_dp_len l; have b := bt_dp_len r
    simp only [Bt.dp, Bt.toL, List.length_append, List.length_cons]; omega
theorem BInv.dp {t : Bt} {n : Nat} (h : BInv t n) : t.dp ≤ n := Nat.le_trans (bt_dp_len t) h.len
theorem BInv.mono {t : Bt} {n m : Nat} (h : BInv t n) (hm : n ≤ m) : BInv t m := ⟨h.sml, h.bal, h.srt, Nat.le_trans h.len hm⟩
theorem BInv.step {t : Bt} {n : Nat} (h : BInv t n) (p : Pr) : BInv (stepG t p) (n + 1) := by
  unfold stepG
  split
  · rename_i hp
    refine ⟨sml_put hp.1 hp.2 h.sml, (put_bal _ _ h.bal).1, ?_, ?_⟩
    · rw [toL_put _ _ h.srt]; exact ins_srt h.srt
    · rw [toL_put _ _ h.srt]; have := ins_len p.key p.value t.toL; have := h.len; omega
  · exact h.mono (by omega)
theorem binv_lf : BInv .lf 0 := ⟨trivial, trivial, List.Pairwise.nil, Nat.le_refl _⟩
theorem binv_fold (l : List Pr) : ∀ {t : Bt} {n : Nat}, BInv t n → BInv (l.foldl stepG t) (n + l.length) := by
  induction l with
  | nil => intro t n h; exact h
  | cons p l ih => intro t n h; rw [List.foldl_cons]; exact (ih (h.step p)).mono (by simp; omega)
theorem binv_grown (l : List Pr) : BInv (grownF l) 60 := by
  have := binv_fold (l.take 60) binv_lf
  exact this.mono (by simp; omega)
theorem BInv.is {t : Bt} {n : Nat} (h : BInv t n) (hn : n ≤ 64) : isF t.tre = true := tre_is h.sml h.bal h.srt (Nat.le_trans h.dp hn)
/-- how a tree stands in a variable: as it is, or the empty one as it begins -/
def isT (x : AV) (t : Tre) : Prop := x = t.av ∨ (x = zTre ∧ t = Tre.nil)
theorem isT_frz {x : AV} {t : Tre} (h : isT x t) (H : List AObj) : frz H x = some t.av := by
  rcases h with rfl | ⟨rfl, rfl⟩
  · exact frz_good _ _ (good_tr t)
  · exact frz_nil0 H
theorem isT_kill {x : AV} {t : Tre} (h : isT x t) : kills x = [] := by
  rcases h with rfl | ⟨rfl, rfl⟩
  · exact kills_good _ (good_tr t)
  · rfl
theorem isT_ld {x : AV} {t : Tre} (h : isT x t) {b : Nat} {H : List AObj} (hb : H[b]? = some (.row 5 [x])) : loadA true 5 (.ptr b 1 0 0) H = some x := by
  rcases h with rfl | ⟨rfl, rfl⟩
  · exact ld_box hb
  · exact ld_agg hb rfl
theorem isT_agg {x : AV} {t : Tre} (h : isT x t) : ∃ cs, x = .agg cs ∧ cs.length = 5 := by
  rcases h with rfl | ⟨rfl, rfl⟩
  · exact ⟨_, av_eq t, rfl⟩
  · exact ⟨_, rfl, rfl⟩
theorem isT_sto {β : Type} {x : AV} {t : Tre} (h : isT x t) {H : List AObj} {b : Nat} {cs : List AV} {K : List AObj → List Nat → Option β} (hb : H[b]? = some (.row 5 [.agg cs])) (hc : cs.length = 5) : stoK 5 (.ptr b 1 0 0) x H K = K (H.set b (.row 5 [x])) [] := by
  rcases h with rfl | ⟨rfl, rfl⟩
  · exact sto_t hb hc
  · exact sto_zt hb hc rfl rfl rfl
theorem grown_J3 (l : List Pr) (hl : l.length ≤ 2^50) : ∀ (m i : Nat) (t : Bt) (x : AV) (E : List Nat), i + m = 60 → isT x t.tre → BInv t i →
    ref05_Grown_J3 0 (prsA l) (.ptr 0 1 0 0) (.ptr 1 1 0 0) (.int .i64 (i : Int)) [.row 5 [zTre], .row 5 [x]] E = some ((((l.take 60).drop i).foldl stepG t).tre.av, [], []) := by
  have fin : ∀ (t : Bt) (x : AV) (E : List Nat), isT x t.tre → ((loadA true 5 (.ptr 1 1 0 0) [.row 5 [zTre], .row 5 [x]]).bind fun a26 =>
      stoK 5 (.ptr 0 1 0 0) a26 [.row 5 [zTre], .row 5 [x]] fun H27 E27 =>
      (loadA true 5 (.ptr 0 1 0 0) H27).bind fun a28 =>
      endB false false 0 a28 H27 (E27 ++ E)) = some (t.tre.av, [], []) := fun t x E hx => by
    rw [isT_ld hx (b := 1) rfl, Option.bind_some, isT_sto hx (b := 0) rfl rfl]
    simp only [List.set_cons_zero]
    rw [isT_ld hx (b := 0) rfl, Option.bind_some]
    exact endB_frz (isT_frz hx _) (good_tr _)
  intro m
  induction m with
  | zero =>
    intro i t x E hi hx hv
    refine ref05_Grown_J3_of ?_
    have e2 : (l.take 60).drop i = [] := List.drop_eq_nil_of_le (by simp; omega)
    rw [e2]
    have e60 : ¬ ((i : Int) < 60) := by omega
    simp -implicitDefEqProofs only [lenV_prs, e60, ZS, ZT, Nat.reduceAdd]
    have := fin t x E hx
    split
    · exact this
    · exact this
  | succ m ih =>
    intro i t x E hi hx hv
    refine ref05_Grown_J3_of ?_
    have e60 : ((i : Int) < 60) := by omega
    by_cases hlt : i < l.length
    · have e1 : ((i : Int) < (l.length : Int)) := by omega
      have e2 : (l.take 60).drop i = l[i] :: (l.take 60).drop (i + 1) := by
        have hh : i < (l.take 60).length := by simp; omega
        rw [List.drop_eq_getElem_cons hh, List.getElem_take]
      have e3 : IntKind.i64.wrap ((i : Int) + 1) = ((i + 1 : Nat) : Int) := w64 (by omega) (by omega)
      rw [e2, List.foldl_cons]
      simp -implicitDefEqProofs only [lenV_prs, e1, e60, ixA_prs (List.getElem?_eq_getElem hlt), add_int, e3, ZS, ZT, Nat.reduceAdd]
      have skip : ¬ (l[i].key.length ≤ 80 ∧ l[i].value.length ≤ 1024) → ∀ E, ref05_Grown_J3 0 (prsA l) (.ptr 0 1 0 0) (.ptr 1 1 0 0) (.int .i64 ((i + 1 : Nat) : Int)) [.row 5 [zTre], .row 5 [x]] E = some ((((l.take 60).drop (i + 1)).foldl stepG (stepG t l[i])).tre.av, [], []) := fun h E => by
        have : stepG t l[i] = t := by unfold stepG; rw [if_neg h]
        rw [this]; exact ih (i + 1) t x E (by omega) hx (hv.mono (by omega))
      by_cases h1 : l[i].key.length ≤ 80
      · have h1' : ((l[i].key.length : Int) ≤ 80) := by omega
        rw [if_pos h1']
        by_cases h2 : l[i].value.length ≤ 1024
        · have h2' : ((l[i].value.length : Int) ≤ 1024) := by omega
          rw [if_pos h2', isT_ld hx (b := 1) rfl, Option.bind_some]
          have hd := hv.dp
          have P : callD (EV C) n_ref05_Put [x, bys l[i].key, bys l[i].value] [.row 5 [zTre], .row 5 [x]] = some (Bt.put l[i].key l[i].value t).tre.av :=
            callD_nil (bs := [t.tre.av, bys l[i].key, bys l[i].value]) (by simp [killsL, isT_kill hx, kills_good _ (good_bys _)]) (frzL_cons (isT_frz hx _) (frzL_cons (frz_good _ _ (good_bys _)) (frzL_cons (frz_good _ _ (good_bys _)) rfl))) (by simp [goodL]) (rPut_ok _ _ h1 h2 t hv.sml hv.bal (by omega))
          obtain ⟨cs, hcs, hlen⟩ := isT_agg hx
          rw [P, Option.bind_some, sto_t (b := 1) (cs := cs) (by rw [hcs]; rfl) hlen]
          simp -implicitDefEqProofs only [add_int, e3, ZS, ZT, Nat.reduceAdd]
          have es : stepG t l[i] = Bt.put l[i].key l[i].value t := by unfold stepG; rw [if_pos ⟨h1, h2⟩]
          have := ih (i + 1) (Bt.put l[i].key l[i].value t) (Bt.put l[i].key l[i].value t).tre.av (([] ++ []) ++ E) (by omega) (.inl rfl) (by rw [← es]; exact hv.step _)
          rw [es]
          exact this
        · have h2' : ¬ ((l[i].value.length : Int) ≤ 1024) := by omega
          rw [if_neg h2']
          exact skip (fun h => h2 h.2) E
      · have h1' : ¬ ((l[i].key.length : Int) ≤ 80) := by omega
        rw [if_neg h1']
        exact skip (fun h => h1 h.1) E
    · have e1 : ¬ ((i : Int) < (l.length : Int)) := by omega
      have e2 : (l.take 60).drop i = [] := List.drop_eq_nil_of_le (by simp; omega)
      rw [e2]
      simp -implicitDefEqProofs only [lenV_prs, e1, ZS, ZT, Nat.reduceAdd]
      exact fin t x E hx
theorem Grown_ok (l : List Pr) (hl : l.length ≤ 2^50) : EV C n_ref05_Grown [prsA l] [] = some ((grownF l).tre.av, [], []) := by
  refine ref05_Grown_of ?_
  simp -implicitDefEqProofs only [new_z, ZS, ZT, Nat.reduceAdd]
  rw [fill_nil, sto_zt (b := 1) rfl rfl rfl rfl rfl]
  exact grown_J3 l hl 60 0 .lf zTre _ (by omega) (.inr ⟨rfl, rfl⟩) binv_lf
theorem range_J4 (o0 : AObj) (s : Spn) (l : List Tre) (hl : l.length ≤ 2^40) : ∀ (j i : Nat) (out : List Pr) (E : List Nat), i + j = l.length → out.length ≤ i →
    ref06_Range_J4 0 (.ptr 1 1 0 0) (.slc 2 0 out.length out.length) (kidsA l) (.int .i64 (i : Int)) [o0, .row 3 [s.av], vro 2 (out.map Pr.av)] E = some (prsA (out ++ rangeF s ((l.drop i).map pairT)), [], [])
  | 0, i, out, E, hi, ho => by
    refine ref06_Range_J4_of ?_
    have e1 : ¬ ((i : Int) < (l.length : Int)) := by omega
    have hd : l.drop i = [] := List.drop_eq_nil_of_le (by omega)
    simp -implicitDefEqProofs only [e1, hd, List.map_nil, ZS, ZT, Nat.reduceAdd]
    refine (endB_frz (u := prsA out) (frz_vro (l := 2) (z := 2) rfl (by simp) (goodL_pr _)) (good_prs _)).trans ?_
    simp [rangeF]
  | j + 1, i, out, E, hi, ho => by
    refine ref06_Range_J4_of ?_
    have hlt : i < l.length := by omega
    have e1 : ((i : Int) < (l.length : Int)) := by omega
    have e3 : IntKind.i64.wrap ((i : Int) + 1) = ((i + 1 : Nat) : Int) := w64 (by omega) (by omega)
    have hd : l.drop i = l[i] :: l.drop (i + 1) := List.drop_eq_getElem_cons hlt
    have dr2 : ∀ t : Tre, List.drop 2 t.av.cells = [bys t.value, bys t.digest, kidsA t.kids] := fun t => by rw [cells_tr]; rfl
    simp -implicitDefEqProofs only [e1, ld_sp1, ixA_kids (List.getElem?_eq_getElem hlt), dr_tr1, dr2, rInD, ZS, ZT, Nat.reduceAdd]
    have kp : (pairT l[i]).key = l[i].key := rfl
    rw [hd, List.map_cons]
    unfold rangeF
    rw [List.filter_cons, kp]
    cases hin : inF s l[i].key with
    | true =>
      simp -implicitDefEqProofs only [ixA_kids (List.getElem?_eq_getElem hlt), dr_tr1, dr2, fill_pr, litD_pr, ZS, ZT, Nat.reduceAdd]
      rw [appK_vro (l := 2) (es := out.map Pr.av) (ys := [(pairT l[i]).av]) rfl rfl (by simp) rfl (by decide) (by decide) (by decide) (by simp; omega), esc_good (by simp [goodL])]
      simp -implicitDefEqProofs only [add_int, e3, ZS, ZT, Nat.reduceAdd]
      have := range_J4 o0 s l hl j (i + 1) (out ++ [pairT l[i]]) ([] ++ [] ++ E) (by omega) (by simp; omega)
      simp only [List.length_append, List.length_singleton, List.map_append, List.map_cons, List.map_nil, List.append_assoc, List.singleton_append] at this
      exact this
    | false =>
      simp -implicitDefEqProofs only [add_int, e3, Bool.false_eq_true, ZS, ZT, Nat.reduceAdd]
      exact range_J4 o0 s l hl j (i + 1) out E (by omega) (by omega)
theorem rRange_ok (s : Spn) (t : Tre) (ht : t.ok) (hf : formedF t = true) (hn : (nodesF t).length ≤ 2^40) : EV C n_ref06_Range [t.av, s.av] [] = some (prsA (rangeF s ((nodesF t).map pairT)), [], []) := by
  refine ref06_Range_of ?_
  simp -implicitDefEqProofs only [new_sp, ZS, ZT, Nat.reduceAdd]
  rw [callK_ok (by simp) (rList_ok t ht hf hn)]
  exact range_J4 _ s (nodesF t) hn (nodesF t).length 0 [] _ (by omega) (by simp)
end Go.Pm
namespace Go.Pm
open Go.Proofs
set_option linter.unusedVariables false
set_option linter.unusedSimpArgs false
theorem roots_J11 (o2 : AObj) (s : Spn) (t : Tre) (ht : t.ok) (hf : formedF t = true) (hn : (nodesF t).length ≤ 2^40) (d : Bs) (l : List Tre) (hl : l.length ≤ 2^40) : ∀ (j i : Nat) (out : List Pr) (E : List Nat), i + j = l.length → out.length ≤ i →
    law07_ProofRoots_J11 0 (.ptr 0 1 0 0) (.bool true) (.ptr 1 1 0 0) (bys d) (bys d) .nili (.slc 3 0 out.length out.length) (kidsA l) (.int .i64 (i : Int)) [.row 3 [s.av], .row 5 [t.av], o2, vro 2 (out.map Pr.av)] E = some (.bool (decide (out ++ litF (l.drop i) = rangeF s ((nodesF t).map pairT))), [], [])
  | 0, i, out, E, hi, ho => by
    refine law07_ProofRoots_J11_of ?_
    have e1 : ¬ ((i : Int) < (l.length : Int)) := by omega
    have hd : l.drop i = [] := List.drop_eq_nil_of_le (by omega)
    simp -implicitDefEqProofs only [e1, hd, eql_nil1, eq_self, ld_sp0, ZS, ZT, Nat.reduceAdd]
    rw [callK_ok (by simp) (rRange_ok s t ht hf hn)]
    have hfz : frz [.row 3 [s.av], .row 5 [t.av], o2, vro 2 (out.map Pr.av)] (.slc 3 0 out.length out.length) = some (prsA out) := frz_vro (l := 3) (z := 2) rfl (by simp) (goodL_pr _)
    rw [callK_flat (bs := [prsA out, prsA (rangeF s ((nodesF t).map pairT))]) (frzL_cons hfz (frzL_cons (frz_good _ _ (good_prs _)) rfl)) (by simp) (Same_ok out _ (by omega)) rfl]
    refine (endB_good rfl).trans ?_
    simp [litF]
  | j + 1, i, out, E, hi, ho => by
    refine law07_ProofRoots_J11_of ?_
    have hlt : i < l.length := by omega
    have e1 : ((i : Int) < (l.length : Int)) := by omega
    have e3 : IntKind.i64.wrap ((i : Int) + 1) = ((i + 1 : Nat) : Int) := w64 (by omega) (by omega)
    have hd : l.drop i = l[i] :: l.drop (i + 1) := List.drop_eq_getElem_cons hlt
    have ldk : ∀ (t : Tre) (H : List AObj), loadA false 1 (.ip t.av.cells) H = some (.int .i64 t.kind) := fun t H => by rw [cells_tr]; rfl
    have dr2 : ∀ t : Tre, List.drop 2 t.av.cells = [bys t.value, bys t.digest, kidsA t.kids] := fun t => by rw [cells_tr]; rfl
    have he : litF (l[i] :: l.drop (i + 1)) = (if l[i].kind = 1 then [pairT l[i]] else []) ++ litF (l.drop (i + 1)) := litF_app [] (l.drop (i + 1)) l[i]
    simp -implicitDefEqProofs only [e1, ixA_kids (List.getElem?_eq_getElem hlt), ldk, dr_tr1, dr2, ZS, ZT, Nat.reduceAdd]
    rw [hd, he]
    by_cases hk : l[i].kind = 1
    · rw [if_pos hk, if_pos hk]
      simp -implicitDefEqProofs only [ixA_kids (List.getElem?_eq_getElem hlt), dr_tr1, dr2, fill_pr, litD_pr, ZS, ZT, Nat.reduceAdd]
      rw [appK_vro (l := 3) (es := out.map Pr.av) (ys := [(pairT l[i]).av]) rfl rfl (by simp) rfl (by decide) (by decide) (by decide) (by simp; omega), esc_good (by simp [goodL])]
      simp -implicitDefEqProofs only [add_int, e3, ZS, ZT, Nat.reduceAdd]
      have := roots_J11 o2 s t ht hf hn d l hl j (i + 1) (out ++ [pairT l[i]]) ([] ++ [] ++ E) (by omega) (by simp; omega)
      simp only [List.length_append, List.length_singleton, List.map_append, List.map_cons, List.map_nil, List.append_assoc, List.singleton_append] at this
      exact this
    · rw [if_neg hk, if_neg hk]
      simp -implicitDefEqProofs only [add_int, e3, ZS, ZT, Nat.reduceAdd]
      exact roots_J11 o2 s t ht hf hn d l hl j (i + 1) out E (by omega) (by omega)
theorem grown_facts (l : List Pr) : (grownF l).tre.ok ∧ formedF (grownF l).tre = true ∧ isF (grownF l).tre = true ∧ Srt (nodesF (grownF l).tre) ∧ (nodesF (grownF l).tre).length ≤ 60 := by
  have v := binv_grown l
  refine ⟨tre_ok v.sml, tre_formed v.sml, v.is (by omega), ?_, by rw [tre_len]; exact v.len⟩
  have : (nodesF (grownF l).tre).map pairT = (grownF l).toL := (tre_nodes _).1
  have h := v.srt
  rw [← this] at h
  unfold SrtP at h
  rw [List.pairwise_map] at h
  exact h
theorem dig_bad {w : Int} (hw : wOk w = false) (t : Tre) : digF w t = (1, []) := by simp [digF, hw]
theorem show_len {w : Int} (s : Spn) {t : Tre} (hg : Gd w t) (hfl : fullF t = true) : (nodesF (showF w s t)).length ≤ (nodesF t).length := by
  have := (show_keys s t hg hfl).length_le
  simpa using this
theorem ProofRoots_ok (w : Int) (l : List Pr) (s : Spn) (hl : l.length ≤ 2^50) : EV C n_law07_ProofRoots [.int .i64 w, prsA l, s.av] [] = some (.bool true, [], []) := by
  obtain ⟨ok, hf, hi, hs, hn⟩ := grown_facts l
  refine law07_ProofRoots_of ?_
  simp -implicitDefEqProofs only [new_sp, ZS, ZT, Nat.reduceAdd]
  rw [callK_ok rfl up7_ok]
  simp -implicitDefEqProofs only [ZS, ZT, Nat.reduceAdd]
  rw [callK_ok (by simp) (Grown_ok l hl)]
  simp -implicitDefEqProofs only [new_z, ZS, ZT, Nat.reduceAdd]
  rw [sto_t (b := 1) rfl rfl]
  simp -implicitDefEqProofs only [ld_sp0, ZS, ZT, Nat.reduceAdd]
  rw [callK_ok (by simp) (Prove_ok w s (grownF l).tre ok (by omega))]
  cases hw : wOk w with
  | false =>
    have e : proveF w (grownF l).tre s = (1, Tre.nil) := by unfold proveF; rw [if_pos hw]
    have D := Digest_ok w (grownF l).tre ok
    rw [dig_bad hw] at D
    rw [e]
    simp -implicitDefEqProofs only [resP, new_z, ZS, ZT, Nat.reduceAdd]
    rw [sto_t (b := 2) rfl rfl]
    simp -implicitDefEqProofs only [ZS, ZT, Nat.reduceAdd]
    rw [callK_ok (by simp) D]
    simp -implicitDefEqProofs only [resD, neqE0, show ¬ ((1 : Int) = 0) from by decide, not_false_eq_true, eqlE _ _ _ (show (1 : Int) ≠ 0 by decide), Bool.not_false, ZS, ZT, Nat.reduceAdd]
    exact endB_good rfl
  | true =>
    obtain ⟨gd, hfl⟩ := is_gd hw ok hi
    have e : proveF w (grownF l).tre s = (0, showF w s (grownF l).tre) := by unfold proveF; rw [if_neg (by simp [hw]), if_neg (by simp [hi])]
    obtain ⟨gs, ds⟩ := show_gd hw s gd hfl
    have D := Digest_ok w (grownF l).tre ok
    rw [gd.dig hw] at D
    have DS := Digest_ok w (showF w s (grownF l).tre) gs.ok
    rw [gs.dig hw, ds] at DS
    have hln := show_len s gd hfl
    rw [e]
    simp -implicitDefEqProofs only [resP, new_z, ZS, ZT, Nat.reduceAdd]
    rw [sto_t (b := 2) rfl rfl]
    simp -implicitDefEqProofs only [ZS, ZT, Nat.reduceAdd]
    rw [callK_ok (by simp) D]
    simp -implicitDefEqProofs only [resD, neqE0, decide_true, Bool.not_true, ZS, ZT, Nat.reduceAdd]
    rw [callK_ok (by simp) DS]
    simp -implicitDefEqProofs only [resD, ZS, ZT, Nat.reduceAdd]
    rw [callK_ok (by simp) (List_ok (showF w s (grownF l).tre) gs.ok (by omega)), if_pos gs.check]
    refine (roots_J11 _ s (grownF l).tre ok hf (by omega) (dg w (grownF l).tre) (nodesF (showF w s (grownF l).tre)) (by omega) (nodesF (showF w s (grownF l).tre)).length 0 [] _ (by omega) (by simp)).trans ?_
    rw [List.drop_zero, List.nil_append, show_nodes s _ gd hfl hs]
    simp
theorem agT51 : agT Tryd.prog 51 = true := by unfold agT; rw [Tryd.underlying51]
theorem ty_pr {B f : Nat} {cs : List AV} (h : tyC Tryd.prog B f 51 cs) : ∃ p : Pr, mkE (agT Tryd.prog 51) cs = p.av := by
  obtain ⟨f', css, rfl, h2⟩ := ty_struct Tryd.underlying51 h
  obtain ⟨c1, _, rfl, ⟨k1, _⟩, h2⟩ := forall2_1 h2
  obtain ⟨c2, _, rfl, ⟨k2, _⟩, h2⟩ := forall2_1 h2
  obtain rfl := forall2_0 h2
  obtain ⟨x, rfl, _⟩ := ty_bytesB k1
  obtain ⟨y, rfl, _⟩ := ty_bytesB k2
  exact ⟨⟨x, y⟩, by rw [agT51]; rfl⟩
theorem ty_prs {B f : Nat} {cs : List AV} {a : AV} (e : a = mkE (agT Tryd.prog 30) cs) (h : tyC Tryd.prog B f 30 cs) : ∃ l : List Pr, a = prsA l ∧ l.length * Tryd.prog.bytesOf 51 ≤ B := by
  obtain ⟨l, rfl, hl⟩ := ty_slice (g := Pr.av) Tryd.underlying30 h fun f cs h => ty_pr h
  exact ⟨l, by rw [e, agT_f Tryd.underlying30 rfl]; rfl, hl⟩
theorem prs_len {n : Nat} (h : n * Tryd.prog.bytesOf 51 ≤ reachBytes) : n ≤ 2^50 := by
  have e : Tryd.prog.bytesOf 51 = 48 := by kernel_rfl
  have r : reachBytes = 140737488351232 := rfl
  rw [e, r] at h
  omega
theorem proofRoots_law {a b c : AV} {f f1 f2 : Nat} {l l1 l2 : List AV} (e : a = mkE (agT Tryd.prog 3) l) (h : tyC Tryd.prog reachBytes f 3 l) (e1 : b = mkE (agT Tryd.prog 30) l1) (h1 : tyC Tryd.prog reachBytes f1 30 l1)
    (e2 : c = mkE (agT Tryd.prog 24) l2) (h2 : tyC Tryd.prog reachBytes f2 24 l2) : EV C n_law07_ProofRoots [a, b, c] [] = some (.bool true, [], []) := by
  obtain ⟨w, rfl⟩ := ty_i64' e h
  obtain ⟨p, rfl, hp⟩ := ty_prs e1 h1
  obtain ⟨s, rfl⟩ := ty_spn e2 h2
  exact ProofRoots_ok w p s (prs_len hp)
end Go.Pm
