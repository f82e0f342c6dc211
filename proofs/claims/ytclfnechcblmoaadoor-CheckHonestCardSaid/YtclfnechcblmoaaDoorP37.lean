/- A part of the proof: what the functions of the program answer, as plain lists and numbers. -/
import Derived.Test.YtclfnechcblmoaaDoorP35
import Derived.Test.YtclfnechcblmoaaDoorP36
namespace Go.Pm
open Go.Proofs
set_option linter.unusedVariables false
set_option linter.unusedSimpArgs false
def stepG (t : Bt) (p : Pr) : Bt := if p.key.length ≤ 80 ∧ p.value.length ≤ 1024 then Bt.put p.key p.value t else t
def grownF (l : List Pr) : Bt := (l.take 60).foldl stepG .lf
structure BInv (t : Bt) (n : Nat) : Prop where
  sml : t.sml
  bal : t.bal
  srt : SrtP t.toL
  len : t.toL.length ≤ n
theorem bt_dp_len : ∀ t : Bt, t.dp ≤ t.toL.length
  | .lf => Nat.le_refl _
  | .nd l k v r => by
    have a := bt_dp_len l; have b := bt_dp_len r
    simp only [Bt.dp, Bt.toL, List.length_append, List.length_cons]; omega
theorem BInv.dp {t : Bt} {n : Nat} (h : BInv t n) : t.dp ≤ n := Nat.le_trans (bt_dp_len t) h.len
theorem BInv.mono {t : Bt} {n m : Nat} (h : BInv t n) (hm : n ≤ m) : BInv t m := ⟨h.sml, h.bal, h.srt, Nat.le_trans h.len hm⟩
theorem BInv.step {t : Bt} {n : Nat} (h : BInv t n) (p : Pr) : BInv (stepG t p) (n + 1) := by
  unfold stepG
  split
  · rename_i hp
    refine ⟨sml_put hp.1 hp.2 h.sml, (put_bal _ _ h.bal).1, ?_, ?_⟩
    · rw [toL_put _ _ h.srt]; exact ins_srt h.srt
    · rw [toL_put _ _ h.srt]; have := ins_len p.key p.value t.toL; have := h.len; omega
  · exact h.mono (by omega)
theorem binv_lf : BInv .lf 0 := ⟨trivial, trivial, List.Pairwise.nil, Nat.le_refl _⟩
theorem binv_fold (l : List Pr) : ∀ {t : Bt} {n : Nat}, BInv t n → BInv (l.foldl stepG t) (n + l.length) := by
  induction l with
  | nil => intro t n h; exact h
  | cons p l ih => intro t n h; rw [List.foldl_cons]; exact (ih (h.step p)).mono (by simp; omega)
theorem binv_grown (l : List Pr) : BInv (grownF l) 60 := by
  have := binv_fold (l.take 60) binv_lf
  exact this.mono (by simp; omega)
theorem BInv.is {t : Bt} {n : Nat} (h : BInv t n) (hn : n ≤ 64) : isF t.tre = true := tre_is h.sml h.bal h.srt (Nat.le_trans h.dp hn)
/-- how a tree stands in a variable: as it is, or the empty one as it begins -/
def isT (x : AV) (t : Tre) : Prop := x = t.av ∨ (x = zTre ∧ t = Tre.nil)
theorem isT_frz {x : AV} {t : Tre} (h : isT x t) (H : List AObj) : frz H x = some t.av := by
  rcases h with rfl | ⟨rfl, rfl⟩
  · exact frz_good _ _ (good_tr t)
  · exact frz_nil0 H
theorem isT_kill {x : AV} {t : Tre} (h : isT x t) : kills x = [] := by
  rcases h with rfl | ⟨rfl, rfl⟩
  · exact kills_good _ (good_tr t)
  · rfl
theorem isT_ld {x : AV} {t : Tre} (h : isT x t) {b : Nat} {H : List AObj} (hb : H[b]? = some (.row 5 [x])) : loadA true 5 (.ptr b 1 0 0) H = some x := by
  rcases h with rfl | ⟨rfl, rfl⟩
  · exact ld_box hb
  · exact ld_agg hb rfl
theorem isT_agg {x : AV} {t : Tre} (h : isT x t) : ∃ cs, x = .agg cs ∧ cs.length = 5 := by
  rcases h with rfl | ⟨rfl, rfl⟩
  · exact ⟨_, av_eq t, rfl⟩
  · exact ⟨_, rfl, rfl⟩
theorem isT_sto {β : Type} {x : AV} {t : Tre} (h : isT x t) {H : List AObj} {b : Nat} {cs : List AV} {K : List AObj → List Nat → Option β} (hb : H[b]? = some (.row 5 [.agg cs])) (hc : cs.length = 5) : stoK 5 (.ptr b 1 0 0) x H K = K (H.set b (.row 5 [x])) [] := by
  rcases h with rfl | ⟨rfl, rfl⟩
  · exact sto_t hb hc
  · exact sto_zt hb hc rfl rfl rfl
theorem grown_J3 (l : List Pr) (hl : l.length ≤ 2^50) : ∀ (m i : Nat) (t : Bt) (x : AV) (E : List Nat), i + m = 60 → isT x t.tre → BInv t i →
    ref05_Grown_J3 0 (prsA l) (.ptr 0 1 0 0) (.ptr 1 1 0 0) (.int .i64 (i : Int)) [.row 5 [zTre], .row 5 [x]] E = some ((((l.take 60).drop i).foldl stepG t).tre.av, [], []) := by
  have fin : ∀ (t : Bt) (x : AV) (E : List Nat), isT x t.tre → ((loadA true 5 (.ptr 1 1 0 0) [.row 5 [zTre], .row 5 [x]]).bind fun a26 =>
      stoK 5 (.ptr 0 1 0 0) a26 [.row 5 [zTre], .row 5 [x]] fun H27 E27 =>
      (loadA true 5 (.ptr 0 1 0 0) H27).bind fun a28 =>
      endB false false 0 a28 H27 (E27 ++ E)) = some (t.tre.av, [], []) := fun t x E hx => by
    rw [isT_ld hx (b := 1) rfl, Option.bind_some, isT_sto hx (b := 0) rfl rfl]
    simp only [List.set_cons_zero]
    rw [isT_ld hx (b := 0) rfl, Option.bind_some]
    exact endB_frz (isT_frz hx _) (good_tr _)
  intro m
  induction m with
  | zero =>
    intro i t x E hi hx hv
    refine ref05_Grown_J3_of ?_
    have e2 : (l.take 60).drop i = [] := List.drop_eq_nil_of_le (by simp; omega)
    rw [e2]
    have e60 : ¬ ((i : Int) < 60) := by omega
    simp -implicitDefEqProofs only [lenV_prs, e60, ZS, ZT, Nat.reduceAdd]
    have := fin t x E hx
    split
    · exact this
    · exact this
  | succ m ih =>
    intro i t x E hi hx hv
    refine ref05_Grown_J3_of ?_
    have e60 : ((i : Int) < 60) := by omega
    by_cases hlt : i < l.length
    · have e1 : ((i : Int) < (l.length : Int)) := by omega
      have e2 : (l.take 60).drop i = l[i] :: (l.take 60).drop (i + 1) := by
        have hh : i < (l.take 60).length := by simp; omega
        rw [List.drop_eq_getElem_cons hh, List.getElem_take]
      have e3 : IntKind.i64.wrap ((i : Int) + 1) = ((i + 1 : Nat) : Int) := w64 (by omega) (by omega)
      rw [e2, List.foldl_cons]
      simp -implicitDefEqProofs only [lenV_prs, e1, e60, ixA_prs (List.getElem?_eq_getElem hlt), add_int, e3, ZS, ZT, Nat.reduceAdd]
      have skip : ¬ (l[i].key.length ≤ 80 ∧ l[i].value.length ≤ 1024) → ∀ E, ref05_Grown_J3 0 (prsA l) (.ptr 0 1 0 0) (.ptr 1 1 0 0) (.int .i64 ((i + 1 : Nat) : Int)) [.row 5 [zTre], .row 5 [x]] E = some ((((l.take 60).drop (i + 1)).foldl stepG (stepG t l[i])).tre.av, [], []) := fun h E => by
        have : stepG t l[i] = t := by unfold stepG; rw [if_neg h]
        rw [this]; exact ih (i + 1) t x E (by omega) hx (hv.mono (by omega))
      by_cases h1 : l[i].key.length ≤ 80
      · have h1' : ((l[i].key.length : Int) ≤ 80) := by omega
        rw [if_pos h1']
        by_cases h2 : l[i].value.length ≤ 1024
        · have h2' : ((l[i].value.length : Int) ≤ 1024) := by omega
          rw [if_pos h2', isT_ld hx (b := 1) rfl, Option.bind_some]
          have hd := hv.dp
          have P : callD (EV C) n_ref05_Put [x, bys l[i].key, bys l[i].value] [.row 5 [zTre], .row 5 [x]] = some (Bt.put l[i].key l[i].value t).tre.av :=
            callD_nil (bs := [t.tre.av, bys l[i].key, bys l[i].value]) (by simp [killsL, isT_kill hx, kills_good _ (good_bys _)]) (frzL_cons (isT_frz hx _) (frzL_cons (frz_good _ _ (good_bys _)) (frzL_cons (frz_good _ _ (good_bys _)) rfl))) (by simp [goodL]) (rPut_ok _ _ h1 h2 t hv.sml hv.bal (by omega))
          obtain ⟨cs, hcs, hlen⟩ := isT_agg hx
          rw [P, Option.bind_some, sto_t (b := 1) (cs := cs) (by rw [hcs]; rfl) hlen]
          simp -implicitDefEqProofs only [add_int, e3, ZS, ZT, Nat.reduceAdd]
          have es : stepG t l[i] = Bt.put l[i].key l[i].value t := by unfold stepG; rw [if_pos ⟨h1, h2⟩]
          have := ih (i + 1) (Bt.put l[i].key l[i].value t) (Bt.put l[i].key l[i].value t).tre.av (([] ++ []) ++ E) (by omega) (.inl rfl) (by rw [← es]; exact hv.step _)
          rw [es]
          exact this
        · have h2' : ¬ ((l[i].value.length : Int) ≤ 1024) := by omega
          rw [if_neg h2']
          exact skip (fun h => h2 h.2) E
      · have h1' : ¬ ((l[i].key.length : Int) ≤ 80) := by omega
        rw [if_neg h1']
        exact skip (fun h => h1 h.1) E
    · have e1 : ¬ ((i : Int) < (l.length : Int)) := by omega
      have e2 : (l.take 60).drop i = [] := List.drop_eq_nil_of_le (by simp; omega)
      rw [e2]
      simp -implicitDefEqProofs only [lenV_prs, e1, ZS, ZT, Nat.reduceAdd]
      exact fin t x E hx
theorem Grown_ok (l : List Pr) (hl : l.length ≤ 2^50) : EV C n_ref05_Grown [prsA l] [] = some ((grownF l).tre.av, [], []) := by
  refine ref05_Grown_of ?_
  simp -implicitDefEqProofs only [new_z, ZS, ZT, Nat.reduceAdd]
  rw [fill_nil, sto_zt (b := 1) rfl rfl rfl rfl rfl]
  exact grown_J3 l hl 60 0 .lf zTre _ (by omega) (.inr ⟨rfl, rfl⟩) binv_lf
end Go.Pm
namespace Go.Pm
open Go.Proofs
set_option linter.unusedVariables false
set_option linter.unusedSimpArgs false
theorem grown_facts (l : List Pr) : (grownF l).tre.ok ∧ formedF (grownF l).tre = true ∧ isF (grownF l).tre = true ∧ Srt (nodesF (grownF l).tre) ∧ (nodesF (grownF l).tre).length ≤ 60 := by
  have v := binv_grown l
  refine ⟨tre_ok v.sml, tre_formed v.sml, v.is (by omega), ?_, by rw [tre_len]; exact v.len⟩
  have : (nodesF (grownF l).tre).map pairT = (grownF l).toL := (tre_nodes _).1
  have h := v.srt
  rw [← this] at h
  unfold SrtP at h
  rw [List.pairwise_map] at h
  exact h
theorem dig_bad {w : Int} (hw : wOk w = false) (t : Tre) : digF w t = (1, []) := by simp [digF, hw]
theorem show_len {w : Int} (s : Spn) {t : Tre} (hg : Gd w t) (hfl : fullF t = true) : (nodesF (showF w s t)).length ≤ (nodesF t).length := by
  have := (show_keys s t hg hfl).length_le
  simpa using this
theorem agT51 : agT Tryd.prog 51 = true := by unfold agT; rw [Tryd.underlying51]
theorem ty_pr {B f : Nat} {cs : List AV} (h : tyC Tryd.prog B f 51 cs) : ∃ p : Pr, mkE (agT Tryd.prog 51) cs = p.av := by
  obtain ⟨f', css, rfl, h2⟩ := ty_struct Tryd.underlying51 h
  obtain ⟨c1, _, rfl, ⟨k1, _⟩, h2⟩ := forall2_1 h2
  obtain ⟨c2, _, rfl, ⟨k2, _⟩, h2⟩ := forall2_1 h2
  obtain rfl := forall2_0 h2
  obtain ⟨x, rfl, _⟩ := ty_bytesB k1
  obtain ⟨y, rfl, _⟩ := ty_bytesB k2
  exact ⟨⟨x, y⟩, by rw [agT51]; rfl⟩
theorem ty_prs {B f : Nat} {cs : List AV} {a : AV} (e : a = mkE (agT Tryd.prog 30) cs) (h : tyC Tryd.prog B f 30 cs) : ∃ l : List Pr, a = prsA l ∧ l.length * Tryd.prog.bytesOf 51 ≤ B := by
  obtain ⟨l, rfl, hl⟩ := ty_slice (g := Pr.av) Tryd.underlying30 h fun f cs h => ty_pr h
  exact ⟨l, by rw [e, agT_f Tryd.underlying30 rfl]; rfl, hl⟩
theorem prs_len {n : Nat} (h : n * Tryd.prog.bytesOf 51 ≤ reachBytes) : n ≤ 2^50 := by
  have e : Tryd.prog.bytesOf 51 = 48 := by kernel_rfl
  have r : reachBytes = 140737488351232 := rfl
  rw [e, r] at h
  omega
end Go.Pm
namespace Go.Pm
open Go.Proofs
set_option linter.unusedVariables false
set_option linter.unusedSimpArgs false
theorem srange_J5 (o0 : AObj) (s : Spn) (l : List Tre) (hl : l.length ≤ 2^40) (ho : ∀ t ∈ l, t.key.length ≤ 80 ∧ t.value.length ≤ 1024) : ∀ (j i : Nat) (out : List Pr) (E : List Nat), i + j = l.length → out.length ≤ i →
    scan_Range_J5 0 (.ptr 1 1 0 0) (.slc 2 0 out.length out.length) (kidsA l) (.int .i64 (l.length : Int)) (.int .i64 (i : Int)) [o0, .row 3 [s.av], vro 2 (out.map Pr.av)] E = some (.tup [prsA (out ++ rangeF s ((l.drop i).map pairT)), .nili], [], [])
  | 0, i, out, E, hi, hout => by
    refine scan_Range_J5_of ?_
    have e1 : ¬ ((i : Int) < (l.length : Int)) := by omega
    have e2 : l.drop i = [] := List.drop_eq_nil_of_le (by omega)
    simp -implicitDefEqProofs only [e1, e2, List.map_nil, ZS, Nat.reduceAdd]
    refine (endB_frz (u := .tup [prsA out, .nili]) (frz_tup (frzL_cons (frz_vro (l := 2) (z := 2) rfl (by simp) (goodL_pr _)) rfl)) (by simp [AV.good, goodL])).trans ?_
    simp [rangeF]
  | m + 1, i, out, E, hi, hout => by
    refine scan_Range_J5_of ?_
    have hil : i < l.length := by omega
    have e1 : ((i : Int) < (l.length : Int)) := by omega
    have e2 : l.drop i = l[i] :: l.drop (i + 1) := List.drop_eq_getElem_cons hil
    have e3 : IntKind.i64.wrap ((i : Int) + 1) = ((i + 1 : Nat) : Int) := w64 (by omega) (by omega)
    have hok := ho _ (List.getElem_mem hil)
    simp -implicitDefEqProofs only [e1, ixA_kids (List.getElem?_eq_getElem hil), new_zt, ZS, ZT, Nat.reduceAdd]
    rw [sto_t (b := 3) rfl rfl]
    have La := ldb_a (H := [o0, .row 3 [s.av], vro 2 (out.map Pr.av), .row 5 [l[i].av]]) (b := 3) (t := l[i]) rfl
    have Lb := ldb_b (H := [o0, .row 3 [s.av], vro 2 (out.map Pr.av), .row 5 [l[i].av]]) (b := 3) (t := l[i]) rfl
    simp -implicitDefEqProofs only [La, Lb, ld_sp1, InK, add_int, e3, ZS, ZT, Nat.reduceAdd]
    have kp : (pairT l[i]).key = l[i].key := rfl
    rw [e2, List.map_cons]
    unfold rangeF
    rw [List.filter_cons, kp]
    cases hin : inF s l[i].key with
    | true =>
      simp -implicitDefEqProofs only [La, Lb, callD_ok (env := EV C) (args := [bys l[i].key]) (by simp) (Clone_byte_ok l[i].key (by omega)), callD_ok (env := EV C) (args := [bys l[i].value]) (by simp) (Clone_byte_ok l[i].value (by omega)), ZS, ZT, Nat.reduceAdd]
      rw [fill_pr, litD_pr, Option.bind_some, appK_vro (l := 2) (es := out.map Pr.av) (ys := [(pairT l[i]).av]) rfl rfl (by simp) rfl (by decide) (by decide) (by decide) (by simp; omega), esc_good (by simp [goodL])]
      simp -implicitDefEqProofs only [add_int, e3, ZS, ZT, Nat.reduceAdd]
      rw [condB_t (by simp [AV.bel, bel_good _ _ (good_kids l)])]
      have := srange_J5 o0 s l hl ho m (i + 1) (out ++ [pairT l[i]]) E (by omega) (by simp; omega)
      simp only [List.length_append, List.length_singleton, List.map_append, List.map_cons, List.map_nil, List.append_assoc, List.singleton_append] at this
      exact this
    | false =>
      simp -implicitDefEqProofs only [add_int, e3, Bool.false_eq_true, ZS, ZT, Nat.reduceAdd]
      rw [condB_t (by simp [AV.bel, bel_good _ _ (good_kids l)])]
      exact srange_J5 o0 s l hl ho m (i + 1) out E (by omega) (by omega)
def scanF (t : Tre) (s : Spn) : Int × List Pr := if isF t = true then (0, rangeF s ((nodesF t).map pairT)) else (3, [])
theorem sRange_ok (s : Spn) (t : Tre) (ht : t.ok) (hn : (nodesF t).length ≤ 2^40) : EV C n_scan_Range [t.av, s.av] [] = some (resC (scanF t s), [], []) := by
  refine scan_Range_of ?_
  simp -implicitDefEqProofs only [new_sp, ZS, ZT, Nat.reduceAdd]
  rw [callK_ok (by simp) (avlIs_ok t ht hn)]
  unfold scanF
  cases hi : isF t with
  | false =>
    simp -implicitDefEqProofs only [Bool.false_eq_true, ZS, ZT, Nat.reduceAdd]
    exact endC' 3 (by decide) _ _
  | true =>
    have hc : checkF t = 0 := by unfold isF at hi; simp only [Bool.and_eq_true, decide_eq_true_eq] at hi; exact hi.1
    simp -implicitDefEqProofs only [ZS, ZT, Nat.reduceAdd]
    rw [callK_ok (by simp) (List_ok t ht hn), if_pos hc]
    simp -implicitDefEqProofs only [ZS, ZT, Nat.reduceAdd]
    refine (srange_J5 _ s (nodesF t) hn (fun k hk => let h := nodes_small t (check_formed hc) k hk; ⟨h.1, h.2.1⟩) (nodesF t).length 0 [] _ (by omega) (by simp)).trans ?_
    simp [resC, errA]
theorem CheckHonest_ok (w : Int) (l : List Pr) (s : Spn) (hl : l.length ≤ 2^50) : EV C n_law08_CheckHonest [.int .i64 w, prsA l, s.av] [] = some (.bool true, [], []) := by
  obtain ⟨ok, hf, hi, hs, hn⟩ := grown_facts l
  refine law08_CheckHonest_of ?_
  simp -implicitDefEqProofs only [new_sp, ZS, ZT, Nat.reduceAdd]
  rw [callK_ok rfl up8_ok]
  simp -implicitDefEqProofs only [ZS, ZT, Nat.reduceAdd]
  rw [callK_ok (by simp) (Grown_ok l hl)]
  simp -implicitDefEqProofs only [new_z, ZS, ZT, Nat.reduceAdd]
  rw [sto_t (b := 1) rfl rfl]
  simp -implicitDefEqProofs only [ld_sp0, ZS, ZT, Nat.reduceAdd]
  have D := Digest_ok w (grownF l).tre ok
  cases hw : wOk w with
  | false =>
    rw [dig_bad hw] at D
    rw [callK_ok (by simp) D]
    simp -implicitDefEqProofs only [resD, neqE0, show ¬ ((1 : Int) = 0) from by decide, not_false_eq_true, eqlE _ _ _ (show (1 : Int) ≠ 0 by decide), Bool.not_false, ZS, ZT, Nat.reduceAdd]
    exact endB_good rfl
  | true =>
    obtain ⟨gd, hfl⟩ := is_gd hw ok hi
    have e : proveF w (grownF l).tre s = (0, showF w s (grownF l).tre) := by unfold proveF; rw [if_neg (by simp [hw]), if_neg (by simp [hi])]
    obtain ⟨gs, ds⟩ := show_gd hw s gd hfl
    rw [gd.dig hw] at D
    have hln := show_len s gd hfl
    have P := Prove_ok w s (grownF l).tre ok (by omega)
    rw [e] at P
    have CK := Chk_ok w (dg w (grownF l).tre) s (showF w s (grownF l).tre) gs.ok (fun _ => by omega)
    rw [show_chk hw s gd hfl hs] at CK
    have R := sRange_ok s (grownF l).tre ok (by omega)
    have er : scanF (grownF l).tre s = (0, rangeF s ((nodesF (grownF l).tre).map pairT)) := by unfold scanF; rw [hi]; rfl
    rw [er] at R
    have hrl : (rangeF s ((nodesF (grownF l).tre).map pairT)).length ≤ 60 := by
      unfold rangeF
      have := List.length_filter_le (fun p : Pr => inF s p.key) ((nodesF (grownF l).tre).map pairT)
      rw [List.length_map] at this; omega
    rw [callK_ok (by simp) D]
    simp -implicitDefEqProofs only [resD, neqE0, decide_true, Bool.not_true, ld_sp0, ZS, ZT, Nat.reduceAdd]
    rw [callK_ok (by simp) P]
    simp -implicitDefEqProofs only [resP, new_z, ZS, ZT, Nat.reduceAdd]
    rw [sto_t (b := 2) rfl rfl]
    simp -implicitDefEqProofs only [ld_sp0, ZS, ZT, Nat.reduceAdd]
    rw [callK_ok (by simp) CK]
    simp -implicitDefEqProofs only [resC, ld_sp0, ZS, ZT, Nat.reduceAdd]
    rw [callK_ok (by simp) R]
    simp -implicitDefEqProofs only [resC, eqlE0, ZS, ZT, Nat.reduceAdd]
    rw [callK_ok (by simp) (Same_ok _ _ (by omega))]
    simp -implicitDefEqProofs only [ZS, ZT, Nat.reduceAdd]
    exact endB_good rfl
theorem checkHonest_law {a b c : AV} {f f1 f2 : Nat} {l l1 l2 : List AV} (e : a = mkE (agT Tryd.prog 3) l) (h : tyC Tryd.prog reachBytes f 3 l) (e1 : b = mkE (agT Tryd.prog 30) l1) (h1 : tyC Tryd.prog reachBytes f1 30 l1)
    (e2 : c = mkE (agT Tryd.prog 24) l2) (h2 : tyC Tryd.prog reachBytes f2 24 l2) : EV C n_law08_CheckHonest [a, b, c] [] = some (.bool true, [], []) := by
  obtain ⟨w, rfl⟩ := ty_i64' e h
  obtain ⟨p, rfl, hp⟩ := ty_prs e1 h1
  obtain ⟨s, rfl⟩ := ty_spn e2 h2
  exact CheckHonest_ok w p s (prs_len hp)
end Go.Pm
