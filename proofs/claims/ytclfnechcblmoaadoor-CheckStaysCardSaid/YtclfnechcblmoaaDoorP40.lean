/- A part of the proof: what the functions of the program answer, as plain lists and numbers. -/
import Derived.Test.YtclfnechcblmoaaDoorP31
import Derived.Test.YtclfnechcblmoaaDoorP32
import Derived.Test.YtclfnechcblmoaaDoorP38
import Derived.Test.YtclfnechcblmoaaDoorP39
namespace Go.Pm
open Go.Proofs
set_option linter.unusedVariables false
set_option linter.unusedSimpArgs false
def stepG (t : Bt) (p : Pr) : Bt := if p.key.length ≤ 80 ∧ p.value.length ≤ 1024 then Bt.put p.key p.value t else t
def grownF (l : List Pr) : Bt := (l.take 60).foldl stepG .lf
structure BInv (t : Bt) (n : Nat) : Prop where
  sml : t.sml
  bal : t.bal
  srt : SrtP t.toL
  len : t.toL.length ≤ n
theorem bt_dp_len : ∀ t : Bt, t.dp ≤ t.toL.length
  | .lf => Nat.le_refl _
  | .nd l k v r => by
    have a := bt_dp_len l; have b := bt_dp_len r
    simp only [Bt.dp, Bt.toL, List.length_append, List.length_cons]; omega
theorem BInv.dp {t : Bt} {n : Nat} (h : BInv t n) : t.dp ≤ n := Nat.le_trans (bt_dp_len t) h.len
theorem BInv.mono {t : Bt} {n m : Nat} (h : BInv t n) (hm : n ≤ m) : BInv t m := ⟨h.sml, h.bal, h.srt, Nat.le_trans h.len hm⟩
theorem BInv.step {t : Bt} {n : Nat} (h : BInv t n) (p : Pr) : BInv (stepG t p) (n + 1) := by
  unfold stepG
  split
  · rename_i hp
    refine ⟨sml_put hp.1 hp.2 h.sml, (put_bal _ _ h.bal).1, ?_, ?_⟩
    · rw [toL_put _ _ h.srt]; exact ins_srt h.srt
    · rw [toL_put _ _ h.srt]; have := ins_len p.key p.value t.toL; have := h.len; omega
  · exact h.mono (by omega)
theorem binv_lf : BInv .lf 0 := ⟨trivial, trivial, List.Pairwise.nil, Nat.le_refl _⟩
theorem binv_fold (l : List Pr) : ∀ {t : Bt} {n : Nat}, BInv t n → BInv (l.foldl stepG t) (n + l.length) := by
  induction l with
  | nil => intro t n h; exact h
  | cons p l ih => intro t n h; rw [List.foldl_cons]; exact (ih (h.step p)).mono (by simp; omega)
theorem binv_grown (l : List Pr) : BInv (grownF l) 60 := by
  have := binv_fold (l.take 60) binv_lf
  exact this.mono (by simp; omega)
theorem BInv.is {t : Bt} {n : Nat} (h : BInv t n) (hn : n ≤ 64) : isF t.tre = true := tre_is h.sml h.bal h.srt (Nat.le_trans h.dp hn)
/-- how a tree stands in a variable: as it is, or the empty one as it begins -/
def isT (x : AV) (t : Tre) : Prop := x = t.av ∨ (x = zTre ∧ t = Tre.nil)
theorem isT_frz {x : AV} {t : Tre} (h : isT x t) (H : List AObj) : frz H x = some t.av := by
  rcases h with rfl | ⟨rfl, rfl⟩
  · exact frz_good _ _ (good_tr t)
  · exact frz_nil0 H
theorem isT_kill {x : AV} {t : Tre} (h : isT x t) : kills x = [] := by
  rcases h with rfl | ⟨rfl, rfl⟩
  · exact kills_good _ (good_tr t)
  · rfl
theorem isT_ld {x : AV} {t : Tre} (h : isT x t) {b : Nat} {H : List AObj} (hb : H[b]? = some (.row 5 [x])) : loadA true 5 (.ptr b 1 0 0) H = some x := by
  rcases h with rfl | ⟨rfl, rfl⟩
  · exact ld_box hb
  · exact ld_agg hb rfl
theorem isT_agg {x : AV} {t : Tre} (h : isT x t) : ∃ cs, x = .agg cs ∧ cs.length = 5 := by
  rcases h with rfl | ⟨rfl, rfl⟩
  · exact ⟨_, av_eq t, rfl⟩
  · exact ⟨_, rfl, rfl⟩
theorem isT_sto {β : Type} {x : AV} {t : Tre} (h : isT x t) {H : List AObj} {b : Nat} {cs : List AV} {K : List AObj → List Nat → Option β} (hb : H[b]? = some (.row 5 [.agg cs])) (hc : cs.length = 5) : stoK 5 (.ptr b 1 0 0) x H K = K (H.set b (.row 5 [x])) [] := by
  rcases h with rfl | ⟨rfl, rfl⟩
  · exact sto_t hb hc
  · exact sto_zt hb hc rfl rfl rfl
theorem grown_J3 (l : List Pr) (hl : l.length ≤ 2^50) : ∀ (m i : Nat) (t : Bt) (x : AV) (E : List Nat), i + m = 60 → isT x t.tre → BInv t i →
    ref05_Grown_J3 0 (prsA l) (.ptr 0 1 0 0) (.ptr 1 1 0 0) (.int .i64 (i : Int)) [.row 5 [zTre], .row 5 [x]] E = some ((((l.take 60).drop i).foldl stepG t).tre.av, [], []) := by
  have fin : ∀ (t : Bt) (x : AV) (E : List Nat), isT x t.tre → ((loadA true 5 (.ptr 1 1 0 0) [.row 5 [zTre], .row 5 [x]]).bind fun a26 =>
      stoK 5 (.ptr 0 1 0 0) a26 [.row 5 [zTre], .row 5 [x]] fun H27 E27 =>
      (loadA true 5 (.ptr 0 1 0 0) H27).bind fun a28 =>
      endB false false 0 a28 H27 (E27 ++ E)) = some (t.tre.av, [], []) := fun t x E hx => by
    rw [isT_ld hx (b := 1) rfl, Option.bind_some, isT_sto hx (b := 0) rfl rfl]
    simp only [List.set_cons_zero]
    rw [isT_ld hx (b := 0) rfl, Option.bind_some]
    exact endB_frz (isT_frz hx _) (good_tr _)
  intro m
  induction m with
  | zero =>
    intro i t x E hi hx hv
    refine ref05_Grown_J3_of ?_
    have e2 : (l.take 60).drop i = [] := List.drop_eq_nil_of_le (by simp; omega)
    rw [e2]
    have e60 : ¬ ((i : Int) < 60) := by omega
    simp -implicitDefEqProofs only [lenV_prs, e60, ZS, ZT, Nat.reduceAdd]
    have := fin t x E hx
    split
    · exact this
    · exact this
  | succ m ih =>
    intro i t x E hi hx hv
    refine ref05_Grown_J3_of ?_
    have e60 : ((i : Int) < 60) := by omega
    by_cases hlt : i < l.length
    · have e1 : ((i : Int) < (l.length : Int)) := by omega
      have e2 : (l.take 60).drop i = l[i] :: (l.take 60).drop (i + 1) := by
        have hh : i < (l.take 60).length := by simp; omega
        rw [List.drop_eq_getElem_cons hh, List.getElem_take]
      have e3 : IntKind.i64.wrap ((i : Int) + 1) = ((i + 1 : Nat) : Int) := w64 (by omega) (by omega)
      rw [e2, List.foldl_cons]
      simp -implicitDefEqProofs only [lenV_prs, e1, e60, ixA_prs (List.getElem?_eq_getElem hlt), add_int, e3, ZS, ZT, Nat.reduceAdd]
      have skip : ¬ (l[i].key.length ≤ 80 ∧ l[i].value.length ≤ 1024) → ∀ E, ref05_Grown_J3 0 (prsA l) (.ptr 0 1 0 0) (.ptr 1 1 0 0) (.int .i64 ((i + 1 : Nat) : Int)) [.row 5 [zTre], .row 5 [x]] E = some ((((l.take 60).drop (i + 1)).foldl stepG (stepG t l[i])).tre.av, [], []) := fun h E => by
        have : stepG t l[i] = t := by unfold stepG; rw [if_neg h]
        rw [this]; exact ih (i + 1) t x E (by omega) hx (hv.mono (by omega))
      by_cases h1 : l[i].key.length ≤ 80
      · have h1' : ((l[i].key.length : Int) ≤ 80) := by omega
        rw [if_pos h1']
        by_cases h2 : l[i].value.length ≤ 1024
        · have h2' : ((l[i].value.length : Int) ≤ 1024) := by omega
          rw [if_pos h2', isT_ld hx (b := 1) rfl, Option.bind_some]
          have hd := hv.dp
          have P : callD (EV C) n_ref05_Put [x, bys l[i].key, bys l[i].value] [.row 5 [zTre], .row 5 [x]] = some (Bt.put l[i].key l[i].value t).tre.av :=
            callD_nil (bs := [t.tre.av, bys l[i].key, bys l[i].value]) (by simp [killsL, isT_kill hx, kills_good _ (good_bys _)]) (frzL_cons (isT_frz hx _) (frzL_cons (frz_good _ _ (good_bys _)) (frzL_cons (frz_good _ _ (good_bys _)) rfl))) (by simp [goodL]) (rPut_ok _ _ h1 h2 t hv.sml hv.bal (by omega))
          obtain ⟨cs, hcs, hlen⟩ := isT_agg hx
          rw [P, Option.bind_some, sto_t (b := 1) (cs := cs) (by rw [hcs]; rfl) hlen]
          simp -implicitDefEqProofs only [add_int, e3, ZS, ZT, Nat.reduceAdd]
          have es : stepG t l[i] = Bt.put l[i].key l[i].value t := by unfold stepG; rw [if_pos ⟨h1, h2⟩]
          have := ih (i + 1) (Bt.put l[i].key l[i].value t) (Bt.put l[i].key l[i].value t).tre.av (([] ++ []) ++ E) (by omega) (.inl rfl) (by rw [← es]; exact hv.step _)
          rw [es]
          exact this
        · have h2' : ¬ ((l[i].value.length : Int) ≤ 1024) := by omega
          rw [if_neg h2']
          exact skip (fun h => h2 h.2) E
      · have h1' : ¬ ((l[i].key.length : Int) ≤ 80) := by omega
        rw [if_neg h1']
        exact skip (fun h => h1 h.1) E
    · have e1 : ¬ ((i : Int) < (l.length : Int)) := by omega
      have e2 : (l.take 60).drop i = [] := List.drop_eq_nil_of_le (by simp; omega)
      rw [e2]
      simp -implicitDefEqProofs only [lenV_prs, e1, ZS, ZT, Nat.reduceAdd]
      exact fin t x E hx
theorem Grown_ok (l : List Pr) (hl : l.length ≤ 2^50) : EV C n_ref05_Grown [prsA l] [] = some ((grownF l).tre.av, [], []) := by
  refine ref05_Grown_of ?_
  simp -implicitDefEqProofs only [new_z, ZS, ZT, Nat.reduceAdd]
  rw [fill_nil, sto_zt (b := 1) rfl rfl rfl rfl rfl]
  exact grown_J3 l hl 60 0 .lf zTre _ (by omega) (.inr ⟨rfl, rfl⟩) binv_lf
theorem range_J4 (o0 : AObj) (s : Spn) (l : List Tre) (hl : l.length ≤ 2^40) : ∀ (j i : Nat) (out : List Pr) (E : List Nat), i + j = l.length → out.length ≤ i →
    ref06_Range_J4 0 (.ptr 1 1 0 0) (.slc 2 0 out.length out.length) (kidsA l) (.int .i64 (i : Int)) [o0, .row 3 [s.av], vro 2 (out.map Pr.av)] E = some (prsA (out ++ rangeF s ((l.drop i).map pairT)), [], [])
  | 0, i, out, E, hi, ho => by
    refine ref06_Range_J4_of ?_
    have e1 : ¬ ((i : Int) < (l.length : Int)) := by omega
    have hd : l.drop i = [] := List.drop_eq_nil_of_le (by omega)
    simp -implicitDefEqProofs only [e1, hd, List.map_nil, ZS, ZT, Nat.reduceAdd]
    refine (endB_frz (u := prsA out) (frz_vro (l := 2) (z := 2) rfl (by simp) (goodL_pr _)) (good_prs _)).trans ?_
    simp [rangeF]
  | j + 1, i, out, E, hi, ho => by
    refine ref06_Range_J4_of ?_
    have hlt : i < l.length := by omega
    have e1 : ((i : Int) < (l.length : Int)) := by omega
    have e3 : IntKind.i64.wrap ((i : Int) + 1) = ((i + 1 : Nat) : Int) := w64 (by omega) (by omega)
    have hd : l.drop i = l[i] :: l.drop (i + 1) := List.drop_eq_getElem_cons hlt
    have dr2 : ∀ t : Tre, List.drop 2 t.av.cells = [bys t.value, bys t.digest, kidsA t.kids] := fun t => by rw [cells_tr]; rfl
    simp -implicitDefEqProofs only [e1, ld_sp1, ixA_kids (List.getElem?_eq_getElem hlt), dr_tr1, dr2, rInD, ZS, ZT, Nat.reduceAdd]
    have kp : (pairT l[i]).key = l[i].key := rfl
    rw [hd, List.map_cons]
    unfold rangeF
    rw [List.filter_cons, kp]
    cases hin : inF s l[i].key with
    | true =>
      simp -implicitDefEqProofs only [ixA_kids (List.getElem?_eq_getElem hlt), dr_tr1, dr2, fill_pr, litD_pr, ZS, ZT, Nat.reduceAdd]
      rw [appK_vro (l := 2) (es := out.map Pr.av) (ys := [(pairT l[i]).av]) rfl rfl (by simp) rfl (by decide) (by decide) (by decide) (by simp; omega), esc_good (by simp [goodL])]
      simp -implicitDefEqProofs only [add_int, e3, ZS, ZT, Nat.reduceAdd]
      have := range_J4 o0 s l hl j (i + 1) (out ++ [pairT l[i]]) ([] ++ [] ++ E) (by omega) (by simp; omega)
      simp only [List.length_append, List.length_singleton, List.map_append, List.map_cons, List.map_nil, List.append_assoc, List.singleton_append] at this
      exact this
    | false =>
      simp -implicitDefEqProofs only [add_int, e3, Bool.false_eq_true, ZS, ZT, Nat.reduceAdd]
      exact range_J4 o0 s l hl j (i + 1) out E (by omega) (by omega)
theorem rRange_ok (s : Spn) (t : Tre) (ht : t.ok) (hf : formedF t = true) (hn : (nodesF t).length ≤ 2^40) : EV C n_ref06_Range [t.av, s.av] [] = some (prsA (rangeF s ((nodesF t).map pairT)), [], []) := by
  refine ref06_Range_of ?_
  simp -implicitDefEqProofs only [new_sp, ZS, ZT, Nat.reduceAdd]
  rw [callK_ok (by simp) (rList_ok t ht hf hn)]
  exact range_J4 _ s (nodesF t) hn (nodesF t).length 0 [] _ (by omega) (by simp)
end Go.Pm
namespace Go.Pm
open Go.Proofs
set_option linter.unusedVariables false
set_option linter.unusedSimpArgs false
theorem grown_facts (l : List Pr) : (grownF l).tre.ok ∧ formedF (grownF l).tre = true ∧ isF (grownF l).tre = true ∧ Srt (nodesF (grownF l).tre) ∧ (nodesF (grownF l).tre).length ≤ 60 := by
  have v := binv_grown l
  refine ⟨tre_ok v.sml, tre_formed v.sml, v.is (by omega), ?_, by rw [tre_len]; exact v.len⟩
  have : (nodesF (grownF l).tre).map pairT = (grownF l).toL := (tre_nodes _).1
  have h := v.srt
  rw [← this] at h
  unfold SrtP at h
  rw [List.pairwise_map] at h
  exact h
theorem show_len {w : Int} (s : Spn) {t : Tre} (hg : Gd w t) (hfl : fullF t = true) : (nodesF (showF w s t)).length ≤ (nodesF t).length := by
  have := (show_keys s t hg hfl).length_le
  simpa using this
theorem agT51 : agT Tryd.prog 51 = true := by unfold agT; rw [Tryd.underlying51]
theorem ty_pr {B f : Nat} {cs : List AV} (h : tyC Tryd.prog B f 51 cs) : ∃ p : Pr, mkE (agT Tryd.prog 51) cs = p.av := by
  obtain ⟨f', css, rfl, h2⟩ := ty_struct Tryd.underlying51 h
  obtain ⟨c1, _, rfl, ⟨k1, _⟩, h2⟩ := forall2_1 h2
  obtain ⟨c2, _, rfl, ⟨k2, _⟩, h2⟩ := forall2_1 h2
  obtain rfl := forall2_0 h2
  obtain ⟨x, rfl, _⟩ := ty_bytesB k1
  obtain ⟨y, rfl, _⟩ := ty_bytesB k2
  exact ⟨⟨x, y⟩, by rw [agT51]; rfl⟩
theorem ty_prs {B f : Nat} {cs : List AV} {a : AV} (e : a = mkE (agT Tryd.prog 30) cs) (h : tyC Tryd.prog B f 30 cs) : ∃ l : List Pr, a = prsA l ∧ l.length * Tryd.prog.bytesOf 51 ≤ B := by
  obtain ⟨l, rfl, hl⟩ := ty_slice (g := Pr.av) Tryd.underlying30 h fun f cs h => ty_pr h
  exact ⟨l, by rw [e, agT_f Tryd.underlying30 rfl]; rfl, hl⟩
theorem prs_len {n : Nat} (h : n * Tryd.prog.bytesOf 51 ≤ reachBytes) : n ≤ 2^50 := by
  have e : Tryd.prog.bytesOf 51 = 48 := by kernel_rfl
  have r : reachBytes = 140737488351232 := rfl
  rw [e, r] at h
  omega
end Go.Pm
namespace Go.Pm
open Go.Proofs
set_option linter.unusedVariables false
set_option linter.unusedSimpArgs false
theorem gd_fit {w : Int} (hw : wOk w = true) (t : Tre) : Gd w t → t.fit := by
  have hw' : 1 ≤ w ∧ w ≤ 32 := by simpa [wOk] using hw
  induction t using Tre.ind with
  | h t ih =>
    intro hg
    by_cases h0 : t.kind = 0
    · have := hg.formed
      rw [formedF_eq, Bool.and_eq_true] at this
      have h1 := this.1
      unfold formed1 at h1
      rw [if_pos h0, decide_eq_true_eq] at h1
      have hk : t.kids = [] := List.eq_nil_of_length_eq_zero (by omega)
      exact (fit_eq t).2 ⟨by omega, by omega, by omega, by omega, fun k hk' => by rw [hk] at hk'; cases hk'⟩
    · by_cases h3 : t.kind = 3
      · have hf := hg.formed
        rw [formedF_eq, Bool.and_eq_true] at hf
        have h1 := hf.1
        unfold formed1 at h1
        rw [if_neg h0, if_neg (by omega), if_neg (by omega), if_pos h3, decide_eq_true_eq] at h1
        have ht := hg.told
        rw [told_cut w t h3] at ht
        have hd : (t.digest.length : Int) = w := Decidable.byContradiction fun hx => by rw [if_neg hx] at ht; cases ht
        have hk : t.kids = [] := List.eq_nil_of_length_eq_zero (by omega)
        exact (fit_eq t).2 ⟨by omega, by omega, by omega, by omega, fun k hk' => by rw [hk] at hk'; cases hk'⟩
      · obtain ⟨l, r, nd⟩ := hg.node h0 h3
        have hk := nd.kids
        have h4 := nd.key; have h5 := nd.value; have h6 := nd.pv
        have hd : t.digest.length ≤ 2^40 := by
          rcases nd.kind with h | h
          · have hf := hg.formed
            rw [formedF_eq, Bool.and_eq_true] at hf
            have h1 := hf.1
            unfold formed1 at h1
            rw [if_neg h0, if_pos h] at h1
            simp only [Bool.and_eq_true, decide_eq_true_eq] at h1
            omega
          · have : pv w t = t.digest := by unfold pv; rw [if_neg (by omega)]
            rw [this] at h6; omega
        refine (fit_eq t).2 ⟨by omega, by omega, hd, by rw [hk]; simp, fun k hk' => ?_⟩
        have hm := hk'
        rw [hk] at hk'
        simp only [List.mem_cons, List.not_mem_nil, or_false] at hk'
        rcases hk' with rfl | rfl
        · exact ih _ hm nd.gl
        · exact ih _ hm nd.gr
theorem Cel.wr {G : List AObj} {c : AV} (h : Cel G c) {l : Nat} {bs bs' : Bs} (hl : G[l]? = some (.row 1 (bs.map u8))) (hn : bs'.length = bs.length) : Cel (G.set l (.row 1 (bs'.map u8))) c := by
  rcases h with h | ⟨l', n, cs, h1, h2, h3, h4⟩
  · exact .inl h
  · by_cases e : l = l'
    · subst e
      rw [hl] at h2
      injection h2 with h2; injection h2 with _ h2
      have : cs.length = bs.length := by have := congrArg List.length h2; simpa using this.symm
      exact .inr ⟨l, n, bs', h1, List.getElem?_set_self (List.getElem?_eq_some_iff.1 hl).1, by omega, h4⟩
    · exact .inr ⟨l', n, cs, h1, by rw [List.getElem?_set_ne e]; exact h2, h3, h4⟩
theorem set_ne1 {G : List AObj} {l o z : Nat} {es bs : List AV} {X : AObj} (hl : G[l]? = some (.row 1 bs)) (ho : G[o]? = some (.row z es)) (hz : z ≠ 1) : (G.set l X)[o]? = some (.row z es) := by
  rw [List.getElem?_set_ne]
  · exact ho
  · intro e; subst e; rw [hl] at ho; simp at ho; exact hz ho.1.symm
theorem set_nev {G : List AObj} {l o z : Nat} {es bs : List AV} {X : AObj} (hl : G[l]? = some (.row 1 bs)) (ho : G[o]? = some (vro z es)) (hz : z ≠ 1) : (G.set l X)[o]? = some (vro z es) := by
  rw [List.getElem?_set_ne]
  · exact ho
  · intro e; subst e; rw [hl] at ho
    unfold vro at ho
    split at ho
    · simp at ho
    · simp at ho; exact hz ho.1.symm
theorem ix_row1 {H : List AObj} {m n i : Nat} {es : List AV} (h : H[m]? = some (.row 1 es)) (hn : es.length = n) (hi : i < n) : ixA 1 (.slc m 0 n n) (.int .i64 (i : Int)) H = some (.ptr m n i 0) := by
  simp [ixA, indexA, h, hn]; omega
theorem ld_row1 {H : List AObj} {m n i : Nat} {l : List UInt8} (h : H[m]? = some (.row 1 (l.map u8))) (hn : l.length = n) (hi : i < l.length) : loadA false 1 (.ptr m n i 0) H = some (u8 l[i]) := by
  simp [loadA, h, hn, ldv, List.getElem?_eq_getElem hi, AV.cells, u8]
theorem sto_u8 {H : List AObj} {m n i : Nat} {l : List UInt8} {v : UInt8} {K : List AObj → List Nat → Option R3} (h : H[m]? = some (.row 1 (l.map u8))) (hn : l.length = n) (hi : i < l.length) : stoK 1 (.ptr m n i 0) (u8 v) H K = K (H.set m (.row 1 ((l.set i v).map u8))) [] := by
  have h2 : storeA 1 (.ptr m n i 0) (u8 v) H = some (H.set m (.row 1 ((l.set i v).map u8)), []) := by
    simp [storeA, h, hn, List.getElem?_eq_getElem hi, AV.cells, u8, setC, set1, AV.one, escs, belL, AV.bel, List.map_set]
  unfold stoK; rw [h2]; rfl
theorem add_u8 (x : UInt8) : ∃ v : UInt8, binA .add (Go.TypeDesc.int Go.IntKind.u8) (cmpT Tryd.prog) true (u8 x) (.int .u8 1) = some (u8 v) := by
  refine ⟨UInt8.ofNat (x.toNat + 1), ?_⟩
  rw [show u8 x = .int .u8 (x.toNat : Int) from rfl, add_int]
  congr 1
theorem lenV_sl1 {H : List AObj} {m n : Nat} {es : List AV} (h : H[m]? = some (.row 1 es)) (hn : es.length = n) : lenV (.slc m 0 n n) H = some (.int .i64 (n : Int)) := by simp [lenV, lenA, lenOf, h, hn]
structure Lw (G : List AObj) (s : Spn) (t q : Tre) (o : Nat) (vals : List AV) : Prop where
  r0 : G[0]? = some (.row 3 [s.av])
  r1 : G[1]? = some (.row 5 [t.av])
  r3 : G[3]? = some (.row 5 [q.av])
  ro : G[o]? = some (vro 2 vals)
  cel : ∀ v ∈ vals, Pcel G v
theorem Lw.wr {G : List AObj} {s : Spn} {t q : Tre} {o : Nat} {vals : List AV} (h : Lw G s t q o vals) {l : Nat} {bs bs' : Bs} (hl : G[l]? = some (.row 1 (bs.map u8))) (hn : bs'.length = bs.length) : Lw (G.set l (.row 1 (bs'.map u8))) s t q o vals :=
  ⟨set_ne1 hl h.r0 (by decide), set_ne1 hl h.r1 (by decide), set_ne1 hl h.r3 (by decide), set_nev hl h.ro (by decide), fun v hv => by
    obtain ⟨a, c, h1, h2⟩ := h.cel v hv
    exact ⟨a, c, h1, h2.wr hl hn⟩⟩
theorem vro_row {z : Nat} {es : List AV} {i : Nat} (h : i < es.length) : vro z es = .row z es := vro_cons (fun e => by subst e; simp at h)
theorem ld_val {G : List AObj} {o : Nat} {vals : List AV} {i : Nat} (h : G[o]? = some (vro 2 vals)) (hi : i < vals.length) {a : Bs} {c : AV} (hv : vals[i] = .agg [bys a, c]) :
    ixA 2 (.slc o 0 vals.length vals.length) (.int .i64 (i : Int)) G = some (.ptr o vals.length i 0) ∧ loadA false 1 (.ptr o vals.length i 1) G = some c := by
  rw [vro_row hi] at h
  refine ⟨by simp [ixA, indexA, h, hi], ?_⟩
  simp [loadA, h, List.getElem?_eq_getElem hi, hv, AV.cells, ldv]
section
variable {s : Spn} {t q : Tre} {o : Nat} {vals : List AV} {root : Bs}
def ChkEnd (s : Spn) (t q : Tre) (root : Bs) : Prop := (chkF 4 root s q) = (0, rangeF s ((nodesF t).map pairT)) ∧ q.ok ∧ (nodesF q).length ≤ 2^40 ∧ t.ok ∧ formedF t = true ∧ (nodesF t).length ≤ 60
theorem stays_j12_end (hE : ChkEnd s t q root) {G : List AObj} {E : List Nat} (hG : Lw G s t q o vals) {i : Nat} (hi : vals.length ≤ i) :
    law08_CheckStays_J12 0 (.ptr 0 1 0 0) (.bool true) (.ptr 1 1 0 0) (.ptr 3 1 0 0) (bys root) (.slc o 0 vals.length vals.length) .nili (.bool true) (.int .i64 (i : Int)) G E = some (.bool true, [], []) := by
  obtain ⟨h1, h2, h3, h4, h5, h6⟩ := hE
  refine law08_CheckStays_J12_of ?_
  rw [show lenV (.slc o 0 vals.length vals.length) G = some (.int .i64 (vals.length : Int)) from by simp [lenV, lenA, lenOf_vro hG.ro], Option.bind_some, lss_int, Option.bind_some, condK_dec, if_neg (by omega)]
  have CK := Chk_ok 4 root s q h2 (fun _ => h3)
  rw [h1] at CK
  rw [ld_sp hG.r0, Option.bind_some, ld_box hG.r3, Option.bind_some, callK_ok (by simp [goodL]) CK]
  have hrl : (rangeF s ((nodesF t).map pairT)).length ≤ 60 := by
    unfold rangeF
    have := List.length_filter_le (fun p : Pr => inF s p.key) ((nodesF t).map pairT)
    rw [List.length_map] at this; omega
  simp -implicitDefEqProofs only [resC, extA_0, extA_1, Option.bind_some, splitK_t, eql_nil1, eqlE0, decide_true]
  rw [ld_box hG.r1, Option.bind_some, ld_sp hG.r0, Option.bind_some, callK_ok (by simp) (rRange_ok s t h4 h5 (by omega)), callK_ok (by simp) (Same_ok _ _ (by omega)), decide_eq_true rfl]
  exact endB_good rfl
theorem stays_j15 (k : Nat → List AObj → List Nat → Option R3) {i : Nat} (hi : i < vals.length) {Ha : List AObj} {Ea : List Nat} {c : AV} {a : Bs} (hv : vals[i] = .agg [bys a, c])
    (hk : ∀ (G : List AObj) (E : List Nat), Lw G s t q o vals → law08_CheckStays_J12 0 (.ptr 0 1 0 0) (.bool true) (.ptr 1 1 0 0) (.ptr 3 1 0 0) (bys root) (.slc o 0 vals.length vals.length) .nili (.bool true) (.int .i64 ((i + 1 : Nat) : Int)) G E = some (.bool true, [], [])) (hi2 : i + 1 < 2^62) {N : Nat} (hN : N ≤ 2^40) : ∀ (m j : Nat) (G : List AObj) (E : List Nat), j + m = N → Lw G s t q o vals → ((c = .emp none ∧ N = 0) ∨ ∃ l bs, c = .slc l 0 N N ∧ G[l]? = some (.row 1 ((bs : Bs).map u8)) ∧ bs.length = N) →
    law08_CheckStays_J15 0 Ha Ea (.ptr 0 1 0 0) (.bool true) (.ptr 1 1 0 0) (.ptr 3 1 0 0) (bys root) (.slc o 0 vals.length vals.length) .nili (.bool true) (.int .i64 (i : Int)) (.int .i64 (j : Int)) G E = some (.bool true, [], [])
  | 0, j, G, E, hj, hG, hc => by
    obtain ⟨x1, x2⟩ := ld_val hG.ro hi hv
    have e3 : IntKind.i64.wrap ((i : Int) + 1) = ((i + 1 : Nat) : Int) := w64 (by omega) (by omega)
    refine law08_CheckStays_J15_of ?_
    have hl : lenV c G = some (.int .i64 (N : Int)) := by
      rcases hc with ⟨rfl, rfl⟩ | ⟨l, bs, rfl, h1, h2⟩
      · rfl
      · exact lenV_sl1 h1 (by simpa using h2)
    rw [x1, Option.bind_some, offA_ptr, Option.bind_some, Nat.zero_add, x2, Option.bind_some, hl, Option.bind_some, lss_int, Option.bind_some, condK_dec, if_neg (by omega), add_int, Option.bind_some, e3]
    exact hk G _ hG
  | m + 1, j, G, E, hj, hG, hc => by
    obtain ⟨x1, x2⟩ := ld_val hG.ro hi hv
    have e3 : IntKind.i64.wrap ((j : Int) + 1) = ((j + 1 : Nat) : Int) := w64 (by omega) (by omega)
    refine law08_CheckStays_J15_of ?_
    rcases hc with ⟨_, h⟩ | ⟨l, bs, rfl, h1, h2⟩
    · omega
    · have hjl : j < bs.length := by omega
      obtain ⟨v, hv'⟩ := add_u8 bs[j]
      rw [x1, Option.bind_some, offA_ptr, Option.bind_some, Nat.zero_add, x2, Option.bind_some, lenV_sl1 h1 (by simpa using h2), Option.bind_some, lss_int, Option.bind_some, condK_dec, if_pos (by omega)]
      have y1 := ix_row1 (i := j) (n := N) h1 (by rw [List.length_map]; exact h2) (by omega)
      have y2 := ld_row1 h1 h2 hjl
      simp -implicitDefEqProofs only [x1, x2, y1, y2, hv', offA_ptr, Nat.zero_add, Option.bind_some]
      rw [sto_u8 h1 h2 hjl, add_int, Option.bind_some, e3]
      refine stays_j15 k hi hv hk hi2 hN m (j + 1) _ _ (by omega) (hG.wr h1 (by rw [List.length_set])) (.inr ⟨l, bs.set j v, rfl, ?_, by rw [List.length_set]; exact h2⟩)
      exact List.getElem?_set_self (List.getElem?_eq_some_iff.1 h1).1
theorem stays_j12 (hE : ChkEnd s t q root) (hn : vals.length ≤ 2^40) : ∀ (m i : Nat) (G : List AObj) (E : List Nat), i + m = vals.length → Lw G s t q o vals →
    law08_CheckStays_J12 0 (.ptr 0 1 0 0) (.bool true) (.ptr 1 1 0 0) (.ptr 3 1 0 0) (bys root) (.slc o 0 vals.length vals.length) .nili (.bool true) (.int .i64 (i : Int)) G E = some (.bool true, [], [])
  | 0, i, G, E, hi, hG => stays_j12_end hE hG (by omega)
  | m + 1, i, G, E, hi, hG => by
    refine law08_CheckStays_J12_of ?_
    rw [show lenV (.slc o 0 vals.length vals.length) G = some (.int .i64 (vals.length : Int)) from by simp [lenV, lenA, lenOf_vro hG.ro], Option.bind_some, lss_int, Option.bind_some, condK_dec, if_pos (by omega)]
    have hil : i < vals.length := by omega
    obtain ⟨a, c, h1, h2⟩ := hG.cel _ (List.getElem_mem hil)
    have h3 : ∃ N, N ≤ 2^40 ∧ ((c = .emp none ∧ N = 0) ∨ ∃ l bs, c = .slc l 0 N N ∧ G[l]? = some (.row 1 ((bs : Bs).map u8)) ∧ bs.length = N) := by
      rcases h2 with h2 | ⟨l, n, bs, g1, g2, g3, g4⟩
      · exact ⟨0, by omega, .inl ⟨h2, rfl⟩⟩
      · exact ⟨n, g4, .inr ⟨l, bs, g1, g2, g3⟩⟩
    obtain ⟨N, h4, h5⟩ := h3
    exact stays_j15 (fun _ _ _ => none) hil h1 (fun G E hG => stays_j12 hE hn m (i + 1) G E (by omega) hG) (by omega) h4 N 0 G [] (by omega) hG h5
end
theorem CheckStays_ok (l : List Pr) (s : Spn) (hl : l.length ≤ 2^50) : EV C n_law08_CheckStays [prsA l, s.av] [] = some (.bool true, [], []) := by
  obtain ⟨ok, hf, hi, hs, hn⟩ := grown_facts l
  have hw : wOk 4 = true := by decide
  obtain ⟨gd, hfl⟩ := is_gd hw ok hi
  have e : proveF 4 (grownF l).tre s = (0, showF 4 s (grownF l).tre) := by unfold proveF; rw [if_neg (by simp [hw]), if_neg (by simp [hi])]
  obtain ⟨gs, ds⟩ := show_gd hw s gd hfl
  have D := Digest_ok 4 (grownF l).tre ok
  rw [gd.dig hw] at D
  have hln := show_len s gd hfl
  have P := Prove_ok 4 s (grownF l).tre ok (by omega)
  rw [e] at P
  have hck := show_chk hw s gd hfl hs
  have hdl := gd.len hw
  refine law08_CheckStays_of ?_
  simp -implicitDefEqProofs only [new_sp, ZS, ZT, Nat.reduceAdd]
  rw [callK_ok rfl up8_ok]
  simp -implicitDefEqProofs only [ZS, ZT, Nat.reduceAdd]
  rw [callK_ok (by simp) (Grown_ok l hl)]
  simp -implicitDefEqProofs only [new_z, ZS, ZT, Nat.reduceAdd]
  rw [sto_t (b := 1) rfl rfl]
  simp -implicitDefEqProofs only [ld_sp0, ZS, ZT, Nat.reduceAdd]
  rw [callK_ok (by simp) D]
  simp -implicitDefEqProofs only [resD, neqE0, decide_true, Bool.not_true, ld_sp0, ZS, ZT, Nat.reduceAdd]
  rw [callK_ok (by simp) P]
  simp -implicitDefEqProofs only [resP, new_z, ZS, ZT, Nat.reduceAdd]
  rw [sto_t (b := 2) rfl rfl]
  simp -implicitDefEqProofs only [neqE0, decide_true, Bool.not_true, ld_sp0, ZS, ZT, Nat.reduceAdd]
  rw [callK_ok (by simp) (Copy_ok _ (gd_fit hw _ gs))]
  simp -implicitDefEqProofs only [new_z, ZS, ZT, Nat.reduceAdd]
  rw [sto_t (b := 3) rfl rfl]
  generalize hq : showF 4 s (grownF l).tre = q at *
  generalize ht : (grownF l).tre = t at *
  generalize hr : dg 4 t = root at *
  obtain ⟨G, vals, E, g1, g2, g3⟩ := Chkr_ok 4 root s q gs.ok (by omega) (by rw [hck]) [.row 3 [s.av], .row 5 [t.av], .row 5 [q.av], .row 5 [q.av]]
  have b3 : (loadA true 5 (.ptr 3 1 0 0) [.row 3 [s.av], .row 5 [t.av], .row 5 [q.av], .row 5 [q.av]]) = some q.av := ld_box rfl
  simp -implicitDefEqProofs only [ld_sp0, b3, appDb root (by omega), ZS, ZT, Nat.reduceAdd]
  rw [callK_raw g1]
  have p0 : G[0]? = some (.row 3 [s.av]) := g2.pre 0 (by simp)
  have p1 : G[1]? = some (.row 5 [t.av]) := g2.pre 1 (by simp)
  have p2 : G[2]? = some (.row 5 [q.av]) := g2.pre 2 (by simp)
  have p3 : G[3]? = some (.row 5 [q.av]) := g2.pre 3 (by simp)
  simp -implicitDefEqProofs only [extA_0, extA_1, Option.bind_some, ld_box p3, ld_box p2]
  rw [callK_ok (by simp) (sameT_self q gs.ok)]
  simp -implicitDefEqProofs only [splitK_t, cvL_bys, Option.bind_some, eql_str, decide_true]
  exact stays_j12 ⟨hck, gs.ok, by omega, ok, hf, hn⟩ (by omega) vals.length 0 G _ (by omega) ⟨p0, p1, p3, g2.out, g2.cel⟩
theorem checkStays_law {b c : AV} {f1 f2 : Nat} {l1 l2 : List AV} (e1 : b = mkE (agT Tryd.prog 30) l1) (h1 : tyC Tryd.prog reachBytes f1 30 l1)
    (e2 : c = mkE (agT Tryd.prog 24) l2) (h2 : tyC Tryd.prog reachBytes f2 24 l2) : EV C n_law08_CheckStays [b, c] [] = some (.bool true, [], []) := by
  obtain ⟨p, rfl, hp⟩ := ty_prs e1 h1
  obtain ⟨s, rfl⟩ := ty_spn e2 h2
  exact CheckStays_ok p s (prs_len hp)
end Go.Pm
