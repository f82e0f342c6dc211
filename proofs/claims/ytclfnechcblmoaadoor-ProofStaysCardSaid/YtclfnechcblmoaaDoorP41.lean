/- A part of the proof: what the functions of the program answer, as plain lists and numbers. -/
import Derived.Test.YtclfnechcblmoaaDoorP32
import Derived.Test.YtclfnechcblmoaaDoorP36
import Derived.Test.YtclfnechcblmoaaDoorP38
import Derived.Test.YtclfnechcblmoaaDoorP39
import Derived.Test.YtclfnechcblmoaaDoorP40
namespace Go.Pm
open Go.Proofs
set_option linter.unusedVariables false
set_option linter.unusedSimpArgs false
theorem siz_lv {β : Type} (t : Tre) (x : Option β) : sizK 5 t.lv x = x := by unfold sizK; rw [if_pos (by rw [cells_lv]; rfl)]
theorem ld_lv4 (t : Tre) (o0 o1 o2 o3 : AObj) (T : List AObj) : loadA true 5 (.ptr 4 1 0 0) (o0 :: o1 :: o2 :: o3 :: .row 5 [t.lv] :: T) = some t.lv := by rw [lv_eq]; rfl
theorem ld_lv5 (t : Tre) (o0 o1 o2 o3 o4 : AObj) (T : List AObj) : loadA true 5 (.ptr 5 1 0 0) (o0 :: o1 :: o2 :: o3 :: o4 :: .row 5 [t.lv] :: T) = some t.lv := by rw [lv_eq]; rfl
@[simp] theorem noL_sp (s : Spn) : s.av.noL = true := by simp [Spn.av, AV.noL, noLL]
theorem InL (s : Spn) (k : Bs) (H : List AObj) (K : AV → List AObj → List Nat → Option R3) : calXK (EV C) 12 n_scan_In [s.av, lbys k] H K = K (.bool (inF s k)) H [] :=
  calXK_12g (by simp [goodL]) (by simp only [erL, er_lbys, er_noL _ (noL_sp s)]; exact In_ok s k) rfl
theorem Clone_l (l : List UInt8) (h : l.length ≤ 140737489400000) : EV C n_Clone_byte [lbys l] [] = some (bys l, [], []) := by
  cases l with
  | nil =>
    refine clone_nilL (C0 := C0) (l := [n_Clone_byte, n_Clone_byte_r]) rfl rfl ?_ ?_
    · refine Clone_byte_of ?_
      show endB false false 0 .nils [] [] = _
      exact endB_frz (u := .lst []) rfl rfl
    · refine Clone_byte_of ?_
      show endB false false 0 (.slc 0 0 0 0) [.row 1 []] [] = _
      exact endB_frz (u := .lst []) rfl rfl
  | cons x l =>
    rw [show lbys (x :: l) = .lnt (.lst (u8 x :: l.map u8)) from rfl, clone_consL (C0 := C0) (l := [n_Clone_byte, n_Clone_byte_r]) rfl rfl]
    refine Clone_byte_of ?_
    have e1 : binA .eql (.slice 5) (cmpT Tryd.prog) true (.lnt (.lst (u8 x :: l.map u8))) .nils = some (.bool false) := rfl
    have e2 : ∀ (K : AV → List AObj → List Nat → Option R3), rawK 1 0 (.int .u8 0) [] [] K = K (.slc 0 0 0 0) [.row 1 []] [] := fun K => rfl
    simp only [e1, e2, Option.bind_some, condK_f]
    rw [show AV.lnt (.lst (u8 x :: l.map u8)) = lbys (x :: l) from rfl, appK_row (n := 0) (es := []) (ys := u8 x :: l.map u8) (elemsA_lbys (x :: l) _) rfl rfl rfl (by decide) (by decide) (by decide) (by simp at h ⊢; omega)]
    exact endB_frz (frz_row (z := 1) (es := u8 x :: l.map u8) rfl (by simp) (goodL_u8 (x :: l))) (good_bys (x :: l))
theorem CompareL (a b : Bs) (H : List AObj) (K : AV → List AObj → List Nat → Option R3) : calXK (EV C) 12 n_bytes_Compare [lbys a, bys b] H K = K (.int .i64 (Lib.compareBytes a b)) H [] :=
  calXK_12g (by simp [goodL]) (by simp only [erL, er_lbys, er_bys]; exact Compare_ok a b) rfl
theorem pcut_l (w : Int) (s : Spn) (hw : wOk w = true) (t : Tre) (h : Gd w t) : EV C n_proof_prover_cut_l [prA w s, t.lv] [] = some ((cutT w t).av, [], []) := by
  refine proof_prover_cut_l_of ?_
  simp -implicitDefEqProofs only [new_prA, new_z, new_lv, lenV_kidsL, loadA_lv, ld_lv1, ld_lv1_k, ld_lv1_a, ld_lv1_b, ld_lv1_c, ld_lv1_s, ld_lv0, ld_lv0_k, ld_lv0_a, ld_lv0_b, ld_lv0_c, ld_lv0_s, ZS, ZT, Nat.reduceAdd]
  unfold cutT
  by_cases h0 : t.kids.length = 0
  · have h0' : (t.kids.length : Int) = 0 := by omega
    rw [if_pos h0', if_pos h0, fill_nil, sto_zt (b := 2) rfl rfl rfl rfl rfl, ld_agg (l := 2) (z := 5) rfl rfl]
    exact endB_frz (frz_nil0 _) (good_tr _)
  · have h0' : ¬ (t.kids.length : Int) = 0 := by omega
    rw [if_neg h0', if_neg h0]
    have D := Digest_l w t h.ok
    rw [h.dig hw] at D
    simp -implicitDefEqProofs only [ld_prw, new_lv, lenV_kidsL, loadA_lv, ld_lv1, ld_lv1_k, ld_lv1_a, ld_lv1_b, ld_lv1_c, ld_lv1_s, ld_lv0, ld_lv0_k, ld_lv0_a, ld_lv0_b, ld_lv0_c, ld_lv0_s, ZS, ZT, Nat.reduceAdd]
    rw [calXK_13g (g := n_tree_Digest) (by simp [goodL]) D (noL_resD (0, _))]
    have e0 : errA 0 = .nili := rfl
    simp -implicitDefEqProofs only [resD, neqE0, decide_true, new_lv, lenV_kidsL, loadA_lv, ld_lv1, ld_lv1_k, ld_lv1_a, ld_lv1_b, ld_lv1_c, ld_lv1_s, ld_lv0, ld_lv0_k, ld_lv0_a, ld_lv0_b, ld_lv0_c, ld_lv0_s, ZS, ZT, Nat.reduceAdd]
    rw [fill_cut, sto_zt (b := 2) rfl rfl rfl (by simp [AV.one, bys]) (by simp [escs, belL, AV.bel, bel_good _ _ (good_bys _)]), ld_agg (l := 2) (z := 5) rfl rfl]
    exact endB_frz (frz_cut0 _ _) (good_tr _)
theorem show_l (w : Int) (s : Spn) (hw : wOk w = true) (t : Tre) : Gd w t → fullF t = true → EV C n_proof_prover_show_l [prA w s, t.lv] [] = some ((showF w s t).av, [], []) := by
  induction t using Tre.ind with
  | h t ih =>
    intro hg hfl
    refine proof_prover_show_l_of ?_
    simp -implicitDefEqProofs only [new_prA, new_z, new_lv, lenV_kidsL, loadA_lv, ld_lv1, ld_lv1_k, ld_lv1_a, ld_lv1_b, ld_lv1_c, ld_lv1_s, ld_lv0, ld_lv0_k, ld_lv0_a, ld_lv0_b, ld_lv0_c, ld_lv0_s, ZS, ZT, Nat.reduceAdd]
    rcases full_kind hg.formed hfl with ⟨h0, hk⟩ | ⟨h1, l0, r0, hk0⟩
    · rw [show_leaf w s hk, hk]
      simp -implicitDefEqProofs only [List.length_nil, Int.natCast_zero, if_true]
      rw [fill_nil, sto_zt (b := 2) rfl rfl rfl rfl rfl, ld_agg (l := 2) (z := 5) rfl rfl]
      exact endB_frz (frz_nil0 _) (good_tr _)
    · obtain ⟨l, r, nd⟩ := hg.node (by omega) (by omega)
      have hk := nd.kids
      have hkey := nd.key
      have hval := nd.value
      have hl : l ∈ t.kids := by rw [hk]; simp
      have hr : r ∈ t.kids := by rw [hk]; simp
      have hfa : fullF l = true ∧ fullF r = true := by
        rw [full_eq, Bool.and_eq_true, List.all_eq_true] at hfl
        exact ⟨hfl.2 l hl, hfl.2 r hr⟩
      have x0 : ∀ H, ixA 5 (kidsL t.kids) (.int .i64 0) H = some (.ip l.lv.cells) := fun H => ixA_kidsL (i := 0) (by rw [hk]; rfl)
      have x1 : ∀ H, ixA 5 (kidsL t.kids) (.int .i64 1) H = some (.ip r.lv.cells) := fun H => ixA_kidsL (i := 1) (by rw [hk]; rfl)
      have e0 : ¬ ((t.kids.length : Int) = 0) := by rw [hk]; simp
      have sl : ∀ (H : List AObj) (K : AV → List AObj → List Nat → Option R3), calXK (EV C) 13 n_proof_prover_show [prA w s, l.lv] H K = K (showF w s l).av H [] := fun H K => calXK_13g (g := n_proof_prover_show) (by simp [goodL]) (ih l hl nd.gl hfa.1) (noL_tr _)
      have sr : ∀ (H : List AObj) (K : AV → List AObj → List Nat → Option R3), calXK (EV C) 13 n_proof_prover_show [prA w s, r.lv] H K = K (showF w s r).av H [] := fun H K => calXK_13g (g := n_proof_prover_show) (by simp [goodL]) (ih r hr nd.gr hfa.2) (noL_tr _)
      have cl : ∀ (H : List AObj) (K : AV → List AObj → List Nat → Option R3), calXK (EV C) 13 n_proof_prover_cut [prA w s, l.lv] H K = K (cutT w l).av H [] := fun H K => calXK_13g (g := n_proof_prover_cut) (by simp [goodL]) (pcut_l w s hw l nd.gl) (noL_tr _)
      have cr : ∀ (H : List AObj) (K : AV → List AObj → List Nat → Option R3), calXK (EV C) 13 n_proof_prover_cut [prA w s, r.lv] H K = K (cutT w r).av H [] := fun H K => calXK_13g (g := n_proof_prover_cut) (by simp [goodL]) (pcut_l w s hw r nd.gr) (noL_tr _)
      have dv : ∀ H, callD (EV C) n_digest_Value [lbys t.value] H = some (bys (0 :: t.value)) := fun H => callD_ok (by simp [goodL]) (Value_l t.value (by omega))
      have dof : ∀ H, callD (EV C) n_digest_Of [.int .i64 w, bys (0 :: t.value)] H = some (.tup [bys (ofF w (0 :: t.value)), .nili]) := fun H => callD_ok (by simp [goodL, AV.good]) (Of_ok w hw _ (by simp; omega))
      rw [if_neg e0, callK_ok (by simp [goodL]) (Clone_l t.key (by omega)), fill_k]
      simp -implicitDefEqProofs only [new_lv, lenV_kidsL, loadA_lv, ld_lv1, ld_lv1_k, ld_lv1_a, ld_lv1_b, ld_lv1_c, ld_lv1_s, ld_lv0, ld_lv0_k, ld_lv0_a, ld_lv0_b, ld_lv0_c, ld_lv0_s, ZS, ZT, Nat.reduceAdd]
      rw [sto_zt (b := 3) rfl rfl rfl (by simp [AV.one, bys]) (by simp [escs, belL, AV.bel, bel_good _ _ (good_bys _)])]
      simp -implicitDefEqProofs only [x0, x1, siz_lv, siz_tr, drawK_eq, drawK_T, ld_prs, InL, new_lv, lenV_kidsL, loadA_lv, ld_lv1, ld_lv1_k, ld_lv1_a, ld_lv1_b, ld_lv1_c, ld_lv1_s, ld_lv0, ld_lv0_k, ld_lv0_a, ld_lv0_b, ld_lv0_c, ld_lv0_s, ZS, ZT, Nat.reduceAdd]
      rw [show_two w s hk]
      cases hi : inF s t.key with
      | true =>
        simp -implicitDefEqProofs only [new_lv, lenV_kidsL, loadA_lv, ld_lv1, ld_lv1_k, ld_lv1_a, ld_lv1_b, ld_lv1_c, ld_lv1_s, ld_lv0, ld_lv0_k, ld_lv0_a, ld_lv0_b, ld_lv0_c, ld_lv0_s, ZS, ZT, Nat.reduceAdd]
        rw [callK_ok (by simp [goodL]) (Clone_l t.value (by omega)), sto_fld (l := 3) rfl (by simp) rfl rfl, escs_bys]
        simp -implicitDefEqProofs only [ld_pr4, ld_lv4, ld_lv5, sl, sr, litD_kids2, new_lv, lenV_kidsL, loadA_lv, ld_lv1, ld_lv1_k, ld_lv1_a, ld_lv1_b, ld_lv1_c, ld_lv1_s, ld_lv0, ld_lv0_k, ld_lv0_a, ld_lv0_b, ld_lv0_c, ld_lv0_s, ZS, ZT, Nat.reduceAdd]
        rw [sto_fld (l := 3) rfl (by simp) rfl rfl, escs_kids]
        simp -implicitDefEqProofs only [new_lv, lenV_kidsL, loadA_lv, ld_lv1, ld_lv1_k, ld_lv1_a, ld_lv1_b, ld_lv1_c, ld_lv1_s, ld_lv0, ld_lv0_k, ld_lv0_a, ld_lv0_b, ld_lv0_c, ld_lv0_s, ZS, ZT, Nat.reduceAdd]
        rw [ld_agg (l := 3) (z := 5) rfl rfl, Option.bind_some, sto_zt (b := 2) rfl rfl rfl (by simp [AV.one, bys, kidsA]) (by simp [escs, belL, AV.bel, bel_good _ _ (good_bys _), bel_good _ _ (good_kids _)]), ld_agg (l := 2) (z := 5) rfl rfl, Option.bind_some]
        exact endB_frz (frz_in _ _ _ _ _) (good_tr _)
      | false =>
        simp -implicitDefEqProofs only [Bool.false_eq_true, new_lv, lenV_kidsL, loadA_lv, ld_lv1, ld_lv1_k, ld_lv1_a, ld_lv1_b, ld_lv1_c, ld_lv1_s, ld_lv0, ld_lv0_k, ld_lv0_a, ld_lv0_b, ld_lv0_c, ld_lv0_s, ZS, ZT, Nat.reduceAdd]
        rw [sto_fld (l := 3) rfl (by simp) rfl rfl, escs_int]
        simp -implicitDefEqProofs only [ld_prw, dv, dof, neq_nil1, new_lv, lenV_kidsL, loadA_lv, ld_lv1, ld_lv1_k, ld_lv1_a, ld_lv1_b, ld_lv1_c, ld_lv1_s, ld_lv0, ld_lv0_k, ld_lv0_a, ld_lv0_b, ld_lv0_c, ld_lv0_s, ZS, ZT, Nat.reduceAdd]
        rw [sto_fld (l := 3) rfl (by simp) rfl rfl, escs_bys]
        simp -implicitDefEqProofs only [ld_pra, CompareL, cmp_lt, new_lv, lenV_kidsL, loadA_lv, ld_lv1, ld_lv1_k, ld_lv1_a, ld_lv1_b, ld_lv1_c, ld_lv1_s, ld_lv0, ld_lv0_k, ld_lv0_a, ld_lv0_b, ld_lv0_c, ld_lv0_s, ZS, ZT, Nat.reduceAdd]
        cases hb : ltB t.key s.a with
        | true =>
          simp -implicitDefEqProofs only [ld_pr4, ld_lv4, ld_lv5, sl, sr, cl, cr, litD_kids2, new_lv, lenV_kidsL, loadA_lv, ld_lv1, ld_lv1_k, ld_lv1_a, ld_lv1_b, ld_lv1_c, ld_lv1_s, ld_lv0, ld_lv0_k, ld_lv0_a, ld_lv0_b, ld_lv0_c, ld_lv0_s, ZS, ZT, Nat.reduceAdd]
          rw [sto_fld (l := 3) rfl (by simp) rfl rfl, escs_kids]
          simp -implicitDefEqProofs only [new_lv, lenV_kidsL, loadA_lv, ld_lv1, ld_lv1_k, ld_lv1_a, ld_lv1_b, ld_lv1_c, ld_lv1_s, ld_lv0, ld_lv0_k, ld_lv0_a, ld_lv0_b, ld_lv0_c, ld_lv0_s, ZS, ZT, Nat.reduceAdd]
          rw [ld_agg (l := 3) (z := 5) rfl rfl, Option.bind_some, sto_zt (b := 2) rfl rfl rfl (by simp [AV.one, bys, kidsA]) (by simp [escs, belL, AV.bel, bel_good _ _ (good_bys _), bel_good _ _ (good_kids _)]), ld_agg (l := 2) (z := 5) rfl rfl, Option.bind_some]
          exact endB_frz (frz_dark _ _ _ _ _) (good_tr _)
        | false =>
          simp -implicitDefEqProofs only [Bool.false_eq_true, ld_pr4, ld_lv4, ld_lv5, sl, sr, cl, cr, litD_kids2, new_lv, lenV_kidsL, loadA_lv, ld_lv1, ld_lv1_k, ld_lv1_a, ld_lv1_b, ld_lv1_c, ld_lv1_s, ld_lv0, ld_lv0_k, ld_lv0_a, ld_lv0_b, ld_lv0_c, ld_lv0_s, ZS, ZT, Nat.reduceAdd]
          rw [sto_fld (l := 3) rfl (by simp) rfl rfl, escs_kids]
          simp -implicitDefEqProofs only [new_lv, lenV_kidsL, loadA_lv, ld_lv1, ld_lv1_k, ld_lv1_a, ld_lv1_b, ld_lv1_c, ld_lv1_s, ld_lv0, ld_lv0_k, ld_lv0_a, ld_lv0_b, ld_lv0_c, ld_lv0_s, ZS, ZT, Nat.reduceAdd]
          rw [ld_agg (l := 3) (z := 5) rfl rfl, Option.bind_some, sto_zt (b := 2) rfl rfl rfl (by simp [AV.one, bys, kidsA]) (by simp [escs, belL, AV.bel, bel_good _ _ (good_bys _), bel_good _ _ (good_kids _)]), ld_agg (l := 2) (z := 5) rfl rfl, Option.bind_some]
          exact endB_frz (frz_dark _ _ _ _ _) (good_tr _)
theorem avlIs_l (t : Tre) (ht : t.ok) (hn : (nodesF t).length ≤ 2^40) {H : List AObj} {K : AV → List AObj → List Nat → Option R3} : calXK (EV C) 12 n_avl_Is [t.lv] H K = K (.bool (isF t)) H [] :=
  calXK_12g (by simp [goodL]) (by simp only [erL, er_lv]; exact avlIs_ok t ht hn) rfl
theorem Prove_l (w : Int) (s : Spn) (t : Tre) (ht : t.ok) (hn : (nodesF t).length ≤ 2^40) : EV C n_proof_Prove_l [.int .i64 w, t.lv, s.av] [] = some (resP (proveF w t s), [], []) := by
  refine proof_Prove_l_of ?_
  simp -implicitDefEqProofs only [new_sp, new_z, new_lv, lenV_kidsL, loadA_lv, ld_lv1, ld_lv1_k, ld_lv1_a, ld_lv1_b, ld_lv1_c, ld_lv1_s, ld_lv0, ld_lv0_k, ld_lv0_a, ld_lv0_b, ld_lv0_c, ld_lv0_s, ZS, ZT, Nat.reduceAdd]
  unfold proveF
  have bad : ∀ (n : Int), n ≠ 0 → ∀ (H : List AObj) (E : List Nat), H[2]? = some (.row 5 [.agg [(.int .i64 0), .nils, .nils, .nils, .nils]]) → (fillB (AV.cells (.agg [(.int .i64 0), .nils, .nils, .nils, .nils])) []).bind (fun c5 =>
      stoK 5 (.ptr 2 1 0 0) (.agg c5) H fun H6 E6 => (loadA true 5 (.ptr 2 1 0 0) H6).bind fun a7 => endB false false 0 (.tup [a7, (.ifc t_api_Code (.int .i64 n))]) H6 (E6 ++ E)) = some (resP (n, Tre.nil), [], []) := fun n hn H E h => by
    have h2 : 2 < H.length := (List.getElem?_eq_some_iff.1 h).1
    rw [fill_nil, sto_zt (b := 2) h rfl rfl rfl rfl, ld_agg (l := 2) (z := 5) (List.getElem?_set_self h2) rfl]
    exact endP n hn _ _
  by_cases h1 : w < 1
  · have hw : wOk w = false := by simp [wOk]; omega
    rw [if_pos h1, if_pos hw]
    exact bad 1 (by decide) _ _ rfl
  · rw [if_neg h1]
    by_cases h2 : 32 < w
    · have hw : wOk w = false := by simp [wOk]; omega
      rw [if_pos h2, if_pos hw]
      exact bad 1 (by decide) _ _ rfl
    · have hw : wOk w = true := by simp [wOk]; omega
      rw [if_neg h2, if_neg (by simp [hw]), avlIs_l t ht hn]
      cases hi : isF t with
      | false =>
        simp -implicitDefEqProofs only [new_lv, lenV_kidsL, loadA_lv, ld_lv1, ld_lv1_k, ld_lv1_a, ld_lv1_b, ld_lv1_c, ld_lv1_s, ld_lv0, ld_lv0_k, ld_lv0_a, ld_lv0_b, ld_lv0_c, ld_lv0_s, ZS, ZT, Nat.reduceAdd]
        exact bad 3 (by decide) _ _ rfl
      | true =>
        obtain ⟨gd, hfl⟩ := is_gd hw ht hi
        simp -implicitDefEqProofs only [ld_sp1, fill_prA, Bool.true_eq_false, new_lv, lenV_kidsL, loadA_lv, ld_lv1, ld_lv1_k, ld_lv1_a, ld_lv1_b, ld_lv1_c, ld_lv1_s, ld_lv0, ld_lv0_k, ld_lv0_a, ld_lv0_b, ld_lv0_c, ld_lv0_s, ZS, ZT, Nat.reduceAdd]
        have ep : AV.agg [.int .i64 w, bys s.a, bys s.b, .bool s.o] = prA w s := rfl
        rw [ep, calXK_13g (g := n_proof_prover_show) (args := [prA w s, t.lv]) (by simp [goodL]) (show_l w s hw t gd hfl) (noL_tr _), sto_t (b := 2) rfl rfl]
        simp -implicitDefEqProofs only [new_lv, lenV_kidsL, loadA_lv, ld_lv1, ld_lv1_k, ld_lv1_a, ld_lv1_b, ld_lv1_c, ld_lv1_s, ld_lv0, ld_lv0_k, ld_lv0_a, ld_lv0_b, ld_lv0_c, ld_lv0_s, ZS, ZT, Nat.reduceAdd]
        exact endB_good (v := resP (0, showF w s t)) (good_resP _)
end Go.Pm
namespace Go.Pm
open Go.Proofs
set_option linter.unusedVariables false
set_option linter.unusedSimpArgs false
theorem set_last {G : List AObj} {a b : AObj} : (G ++ [a]).set G.length b = G ++ [b] := by
  rw [List.set_append_right _ _ (Nat.le_refl _), Nat.sub_self]; rfl
structure Pw (G : List AObj) (s : Spn) (t q : Tre) (o1 o2 : Nat) (ws : List AV) : Prop where
  r0 : G[0]? = some (.row 3 [s.av])
  r1 : G[1]? = some (.row 5 [t.av])
  r2 : G[o1]? = some (.row 5 [q.av])
  r3 : G[o2]? = some (.row 5 [q.av])
  cel : ∀ v ∈ ws, Vcel G v
theorem Pw.wr {G : List AObj} {s : Spn} {t q : Tre} {o1 o2 : Nat} {ws : List AV} (h : Pw G s t q o1 o2 ws) {l : Nat} {bs bs' : Bs} (hl : G[l]? = some (.row 1 (bs.map u8))) (hn : bs'.length = bs.length) : Pw (G.set l (.row 1 (bs'.map u8))) s t q o1 o2 ws :=
  ⟨set_ne1 hl h.r0 (by decide), set_ne1 hl h.r1 (by decide), set_ne1 hl h.r2 (by decide), set_ne1 hl h.r3 (by decide), fun v hv => (h.cel v hv).wr hl hn⟩
section
variable {s : Spn} {t q : Tre} {o1 o2 : Nat} {ws : List AV}
def PrvEnd (s : Spn) (t q : Tre) : Prop := proveF 4 t s = (0, q) ∧ q.ok ∧ t.ok ∧ (nodesF t).length ≤ 2^40
theorem ps_end (hE : PrvEnd s t q) {G : List AObj} {E : List Nat} (hG : Pw G s t q o1 o2 ws) {i : Nat} (hi : ws.length ≤ i) :
    law07_ProofStays_J9 0 (.ptr 0 1 0 0) (.bool true) (.ptr 1 1 0 0) (.ptr o1 1 0 0) .nili (.ptr o2 1 0 0) (.bool true) (.lst ws) (.int .i64 (i : Int)) G E = some (.bool true, [], []) := by
  obtain ⟨h1, h2, h3, h4⟩ := hE
  refine law07_ProofStays_J9_of ?_
  rw [show lenV (.lst ws) G = some (.int .i64 (ws.length : Int)) from rfl, Option.bind_some, lss_int, Option.bind_some, condK_dec, if_neg (by omega)]
  have P := Prove_ok 4 s t h3 h4
  rw [h1] at P
  rw [ld_box hG.r1, Option.bind_some, ld_sp hG.r0, Option.bind_some, callK_ok (by simp [goodL]) P]
  simp -implicitDefEqProofs only [resP, extA_0, extA_1, Option.bind_some, new_z]
  rw [sto_t (b := G.length) (List.getElem?_concat_length ..) rfl, set_last]
  have x1 : ∀ {o : Nat}, G[o]? = some (.row 5 [q.av]) → loadA true 5 (.ptr o 1 0 0) (G ++ [.row 5 [q.av]]) = some q.av := fun h => ld_box (app_l h)
  have x2 : loadA true 5 (.ptr G.length 1 0 0) (G ++ [.row 5 [q.av]]) = some q.av := ld_box (List.getElem?_concat_length ..)
  simp -implicitDefEqProofs only [splitK_t, eql_nil1, eqlE0, decide_true, x1 hG.r2, x1 hG.r3, Option.bind_some]
  rw [callK_ok (by simp) (sameT_self q h2)]
  simp -implicitDefEqProofs only [splitK_t, x1 hG.r2, x2, Option.bind_some]
  rw [callK_ok (by simp) (sameT_self q h2)]
  exact endB_good rfl
theorem ps_J16 {i : Nat} (hi : i < ws.length) {Ha : List AObj} {Ea : List Nat} {kx ka va dx kk : AV} (hv : ws[i] = .agg [kx, ka, va, dx, kk])
    (hk : ∀ (G : List AObj) (E : List Nat), Pw G s t q o1 o2 ws → law07_ProofStays_J9 0 (.ptr 0 1 0 0) (.bool true) (.ptr 1 1 0 0) (.ptr o1 1 0 0) .nili (.ptr o2 1 0 0) (.bool true) (.lst ws) (.int .i64 ((i + 1 : Nat) : Int)) G E = some (.bool true, [], [])) (hi2 : i + 1 < 2^62) {N : Nat} (hN : N ≤ 2^40) : ∀ (m j : Nat) (G : List AObj) (E : List Nat), j + m = N → Pw G s t q o1 o2 ws → CelN G va N →
    law07_ProofStays_J16 0 Ha Ea (.ptr 0 1 0 0) (.bool true) (.ptr 1 1 0 0) (.ptr o1 1 0 0) .nili (.ptr o2 1 0 0) (.bool true) (.lst ws) (.int .i64 (i : Int)) (.int .i64 (j : Int)) G E = some (.bool true, [], [])
  | 0, j, G, E, hj, hG, hc => by
    have x1 := ld_el hi hv
    refine law07_ProofStays_J16_of ?_
    rw [x1, Option.bind_some, offA_ip, Option.bind_some]
    simp only [List.drop_succ_cons, List.drop_zero]
    rw [loadA_ipc, Option.bind_some, hc.len, Option.bind_some, lss_int, Option.bind_some, condK_dec, if_neg (by omega)]
    have e3 : IntKind.i64.wrap ((i : Int) + 1) = ((i + 1 : Nat) : Int) := w64 (by omega) (by omega)
    rw [add_int, Option.bind_some, e3]
    exact hk G _ hG
  | m + 1, j, G, E, hj, hG, hc => by
    have x1 := ld_el hi hv
    have e3 : IntKind.i64.wrap ((j : Int) + 1) = ((j + 1 : Nat) : Int) := w64 (by omega) (by omega)
    refine law07_ProofStays_J16_of ?_
    have hl := hc.len
    rcases hc with ⟨_, h⟩ | ⟨l, bs, rfl, h1, h2⟩
    · omega
    · have hjl : j < bs.length := by omega
      obtain ⟨v, hv'⟩ := add_u8 bs[j]
      have y1 := ix_row1 (i := j) (n := N) h1 (by rw [List.length_map]; exact h2) (by omega)
      have y2 := ld_row1 h1 h2 hjl
      rw [x1, Option.bind_some, offA_ip, Option.bind_some]
      simp only [List.drop_succ_cons, List.drop_zero]
      rw [loadA_ipc, Option.bind_some, hl, Option.bind_some, lss_int, Option.bind_some, condK_dec, if_pos (by omega)]
      simp -implicitDefEqProofs only [x1, y1, y2, hv', offA_ip, List.drop_succ_cons, List.drop_zero, loadA_ipc, Option.bind_some]
      rw [sto_u8 h1 h2 hjl, add_int, Option.bind_some, e3]
      refine ps_J16 hi hv hk hi2 hN m (j + 1) _ _ (by omega) (hG.wr h1 (by rw [List.length_set])) (.inr ⟨l, bs.set j v, rfl, ?_, by rw [List.length_set]; exact h2⟩)
      exact List.getElem?_set_self (List.getElem?_eq_some_iff.1 h1).1

theorem ps_J12 {i : Nat} (hi : i < ws.length) {Ha : List AObj} {Ea : List Nat} {kx ka va dx kk : AV} (hv : ws[i] = .agg [kx, ka, va, dx, kk])
    (hk : ∀ (G : List AObj) (E : List Nat), Pw G s t q o1 o2 ws → law07_ProofStays_J16 0 Ha Ea (.ptr 0 1 0 0) (.bool true) (.ptr 1 1 0 0) (.ptr o1 1 0 0) .nili (.ptr o2 1 0 0) (.bool true) (.lst ws) (.int .i64 (i : Int)) (.int .i64 0) G E = some (.bool true, [], [])) (hi2 : i + 1 < 2^62) {N : Nat} (hN : N ≤ 2^40) : ∀ (m j : Nat) (G : List AObj) (E : List Nat), j + m = N → Pw G s t q o1 o2 ws → CelN G ka N →
    law07_ProofStays_J12 0 Ha Ea (.ptr 0 1 0 0) (.bool true) (.ptr 1 1 0 0) (.ptr o1 1 0 0) .nili (.ptr o2 1 0 0) (.bool true) (.lst ws) (.int .i64 (i : Int)) (.int .i64 (j : Int)) G E = some (.bool true, [], [])
  | 0, j, G, E, hj, hG, hc => by
    have x1 := ld_el hi hv
    refine law07_ProofStays_J12_of ?_
    rw [x1, Option.bind_some, offA_ip, Option.bind_some]
    simp only [List.drop_succ_cons, List.drop_zero]
    rw [loadA_ipc, Option.bind_some, hc.len, Option.bind_some, lss_int, Option.bind_some, condK_dec, if_neg (by omega)]
    exact hk G _ hG
  | m + 1, j, G, E, hj, hG, hc => by
    have x1 := ld_el hi hv
    have e3 : IntKind.i64.wrap ((j : Int) + 1) = ((j + 1 : Nat) : Int) := w64 (by omega) (by omega)
    refine law07_ProofStays_J12_of ?_
    have hl := hc.len
    rcases hc with ⟨_, h⟩ | ⟨l, bs, rfl, h1, h2⟩
    · omega
    · have hjl : j < bs.length := by omega
      obtain ⟨v, hv'⟩ := add_u8 bs[j]
      have y1 := ix_row1 (i := j) (n := N) h1 (by rw [List.length_map]; exact h2) (by omega)
      have y2 := ld_row1 h1 h2 hjl
      rw [x1, Option.bind_some, offA_ip, Option.bind_some]
      simp only [List.drop_succ_cons, List.drop_zero]
      rw [loadA_ipc, Option.bind_some, hl, Option.bind_some, lss_int, Option.bind_some, condK_dec, if_pos (by omega)]
      simp -implicitDefEqProofs only [x1, y1, y2, hv', offA_ip, List.drop_succ_cons, List.drop_zero, loadA_ipc, Option.bind_some]
      rw [sto_u8 h1 h2 hjl, add_int, Option.bind_some, e3]
      refine ps_J12 hi hv hk hi2 hN m (j + 1) _ _ (by omega) (hG.wr h1 (by rw [List.length_set])) (.inr ⟨l, bs.set j v, rfl, ?_, by rw [List.length_set]; exact h2⟩)
      exact List.getElem?_set_self (List.getElem?_eq_some_iff.1 h1).1

theorem ps_j9 (hE : PrvEnd s t q) (hn : ws.length ≤ 2^40) : ∀ (m i : Nat) (G : List AObj) (E : List Nat), i + m = ws.length → Pw G s t q o1 o2 ws →
    law07_ProofStays_J9 0 (.ptr 0 1 0 0) (.bool true) (.ptr 1 1 0 0) (.ptr o1 1 0 0) .nili (.ptr o2 1 0 0) (.bool true) (.lst ws) (.int .i64 (i : Int)) G E = some (.bool true, [], [])
  | 0, i, G, E, hi, hG => ps_end hE hG (by omega)
  | m + 1, i, G, E, hi, hG => by
    refine law07_ProofStays_J9_of ?_
    rw [show lenV (.lst ws) G = some (.int .i64 (ws.length : Int)) from rfl, Option.bind_some, lss_int, Option.bind_some, condK_dec, if_pos (by omega)]
    have hil : i < ws.length := by omega
    obtain ⟨kx, ka, va, dx, kk, h1, h2, h3⟩ := hG.cel _ (List.getElem_mem hil)
    obtain ⟨N, n1, n2⟩ := h2.toN
    refine ps_J12 hil h1 (fun G' E' hG' => ?_) (by omega) n1 N 0 G [] (by omega) hG n2
    obtain ⟨kx', ka', va', dx', kk', h1', h2', h3'⟩ := hG'.cel _ (List.getElem_mem hil)
    obtain ⟨N', n1', n2'⟩ := h3'.toN
    exact ps_J16 hil h1' (fun G E hG => ps_j9 hE hn m (i + 1) G E (by omega) hG) (by omega) n1' N' 0 G' _ (by omega) hG' n2'
end
theorem sto_own {β : Type} {m : Nat} {T H : List AObj} {b : Nat} {cs : List AV} {t : Tre} {v : AV} {K : List AObj → List Nat → Option β} (ho : Own m T t v) (h : H[b]? = some (.row 5 [.agg cs])) (hc : cs.length = 5) : stoK 5 (.ptr b 1 0 0) v H K = K (H.set b (.row 5 [v])) (escs b v.cells) := by
  have g := ownL_get ho
  rw [own_eq] at ho
  obtain ⟨ka, va, kk, rfl, _⟩ := ho
  exact sto_agg h hc rfl g.2.1
theorem ld_own {m : Nat} {T H : List AObj} {b : Nat} {t : Tre} {v : AV} (ho : Own m T t v) (h : H[b]? = some (.row 5 [v])) : loadA true 5 (.ptr b 1 0 0) H = some v := by
  rw [own_eq] at ho
  obtain ⟨ka, va, kk, rfl, _⟩ := ho
  exact ld_agg h rfl
theorem ProofStays_ok (l : List Pr) (s : Spn) (hl : l.length ≤ 2^50) : EV C n_law07_ProofStays [prsA l, s.av] [] = some (.bool true, [], []) := by
  obtain ⟨ok, hf, hi, hs, hn⟩ := grown_facts l
  have hw : wOk 4 = true := by decide
  obtain ⟨gd, hfl⟩ := is_gd hw ok hi
  have e : proveF 4 (grownF l).tre s = (0, showF 4 s (grownF l).tre) := by unfold proveF; rw [if_neg (by simp [hw]), if_neg (by simp [hi])]
  obtain ⟨gs, ds⟩ := show_gd hw s gd hfl
  have P := Prove_l 4 s (grownF l).tre ok (by omega)
  rw [e] at P
  refine law07_ProofStays_of ?_
  simp -implicitDefEqProofs only [new_sp, ZS, ZT, Nat.reduceAdd]
  rw [callK_ok rfl up7_ok]
  simp -implicitDefEqProofs only [ZS, ZT, Nat.reduceAdd]
  rw [callK_ok (by simp) (Grown_ok l hl)]
  simp -implicitDefEqProofs only [new_z, ZS, ZT, Nat.reduceAdd]
  rw [sto_t (b := 1) rfl rfl]
  simp -implicitDefEqProofs only [ld_sp0, ZS, ZT, Nat.reduceAdd]
  generalize hq : showF 4 s (grownF l).tre = q at *
  generalize ht : (grownF l).tre = t at *
  obtain ⟨v, G, E, g1, g2, g3, g4⟩ := Copyr_ok t (gd_fit hw _ gd) [.row 3 [s.av], .row 5 [t.av]]
  rw [callK_raw g1]
  have p0 : G[0]? = some (.row 3 [s.av]) := g3 0 (by simp)
  have p1 : G[1]? = some (.row 5 [t.av]) := g3 1 (by simp)
  dsimp only
  rw [sto_own g2 (List.getElem?_concat_length ..) rfl, set_last]
  have L1 : (G ++ [AObj.row 5 [v]]).length = G.length + 1 := by rw [List.length_append, List.length_singleton]
  have q1 : (G ++ [AObj.row 5 [v]])[G.length]? = some (.row 5 [v]) := List.getElem?_concat_length ..
  have own1 := g2.pre [AObj.row 5 [v]]
  have hlw : lndWL (lnd (G ++ [AObj.row 5 [v]]) 3) (G ++ [AObj.row 5 [v]]) [.int .i64 4, v, s.av] = some [.int .i64 4, t.lv, s.av] := by
    simp only [lndWL, Own.lnt t v own1, lndW_good _ _ _ (good_sp s), lndW_good _ _ (.int .i64 4) rfl, Option.bind_some, Option.map_some]
  rw [ld_own g2 q1, Option.bind_some, ld_sp (app_l p0), Option.bind_some, calXK_13 hlw (belL_good 0 _ (by simp [goodL])) P (by simp [resP, AV.noL, noLL])]
  simp -implicitDefEqProofs only [resP, extA_0, extA_1, Option.bind_some]
  rw [sto_t (b := (G ++ [AObj.row 5 [v]]).length) (List.getElem?_concat_length ..) rfl, set_last]
  have q2 : (G ++ [AObj.row 5 [v]] ++ [AObj.row 5 [q.av]])[(G ++ [AObj.row 5 [v]]).length]? = some (.row 5 [q.av]) := List.getElem?_concat_length ..
  rw [ld_box q2, Option.bind_some, callK_ok (by simp) (Copy_ok _ (gd_fit hw _ gs))]
  rw [sto_t (b := (G ++ [AObj.row 5 [v]] ++ [AObj.row 5 [q.av]]).length) (List.getElem?_concat_length ..) rfl, set_last]
  have q3 : (G ++ [AObj.row 5 [v]] ++ [AObj.row 5 [q.av]] ++ [AObj.row 5 [q.av]])[(G ++ [AObj.row 5 [v]] ++ [AObj.row 5 [q.av]]).length]? = some (.row 5 [q.av]) := List.getElem?_concat_length ..
  have own3 := (own1.pre [AObj.row 5 [q.av]]).pre [AObj.row 5 [q.av]]
  have r0 := app_l (X := [AObj.row 5 [q.av]]) (app_l (X := [AObj.row 5 [q.av]]) (app_l (X := [AObj.row 5 [v]]) p0))
  have r1 := app_l (X := [AObj.row 5 [q.av]]) (app_l (X := [AObj.row 5 [q.av]]) (app_l (X := [AObj.row 5 [v]]) p1))
  have rv := app_l (X := [AObj.row 5 [q.av]]) (app_l (X := [AObj.row 5 [q.av]]) q1)
  have rq := app_l (X := [AObj.row 5 [q.av]]) q2
  obtain ⟨ws, w1, w2⟩ := Listr_ok t hf (by omega) _ G (G ++ [AObj.row 5 [v]] ++ [AObj.row 5 [q.av]] ++ [AObj.row 5 [q.av]]) v (by simp only [List.append_assoc]; exact List.prefix_append _ _) g2
  generalize hX : G ++ [AObj.row 5 [v]] ++ [AObj.row 5 [q.av]] ++ [AObj.row 5 [q.av]] = X at *
  have hls : lndWL (lnd X 3) X [v, t.av] = some [t.lv, t.av] := by
    simp only [lndWL, Own.lnt t v own3, lndW_good _ _ _ (good_tr t), Option.bind_some, Option.map_some]
  have hwl : ws.length = (nodesF t).length := w2.len
  rw [ld_own g2 rv, Option.bind_some, ld_box r1, Option.bind_some, calXK_12r (by simp [belL, Own.ref t v g2]) hls (v := .bool true) (by simp only [erL, er_lv, er_tr]; exact sameT_self t ok) (belL_good 0 _ (by simp [goodL])) rfl]
  rw [ld_own g2 rv, Option.bind_some, callK_raw w1]
  have w3 : ∀ w ∈ ws, Vcel X w := fun w hw => by
    have := ((w2.vcel w hw).app [AObj.row 5 [v]]).app [AObj.row 5 [q.av]] |>.app [AObj.row 5 [q.av]]
    rwa [hX] at this
  exact ps_j9 ⟨e, gs.ok, ok, by omega⟩ (by omega) ws.length 0 X _ (by omega) ⟨r0, r1, rq, q3, w3⟩
theorem proofStays_law {b c : AV} {f1 f2 : Nat} {l1 l2 : List AV} (e1 : b = mkE (agT Tryd.prog 30) l1) (h1 : tyC Tryd.prog reachBytes f1 30 l1)
    (e2 : c = mkE (agT Tryd.prog 24) l2) (h2 : tyC Tryd.prog reachBytes f2 24 l2) : EV C n_law07_ProofStays [b, c] [] = some (.bool true, [], []) := by
  obtain ⟨p, rfl, hp⟩ := ty_prs e1 h1
  obtain ⟨s, rfl⟩ := ty_spn e2 h2
  exact ProofStays_ok p s (prs_len hp)
end Go.Pm
