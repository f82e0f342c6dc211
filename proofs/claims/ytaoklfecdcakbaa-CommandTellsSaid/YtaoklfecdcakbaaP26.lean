/- A part of the proof: what the functions of the program answer, as plain lists and numbers. -/
import Derived.Test.YtaoklfecdcakbaaP24
import Derived.Test.YtaoklfecdcakbaaP25
namespace Go.Pm
open Go.Proofs
set_option linter.unusedVariables false
set_option linter.unusedSimpArgs false
theorem aNode_ok (l r : Tre) (k v : Bs) : EV C n_avl_node [l.av, bys k, bys v, r.av] [] = some ((ndT l k v r).av, [], []) := by
  refine avl_node_of ?_
  simp -implicitDefEqProofs only [new_z, ZS, ZT, Nat.reduceAdd]
  rw [litK_kids2, fill_in, sto_zt (b := 2) rfl rfl rfl (by simp [AV.one, bys, kidsA]) (by simp [escs, belL, AV.bel, bel_good _ _ (good_bys _), bel_good _ _ (good_kids _)]), ld_agg (l := 2) (z := 5) rfl rfl, Option.bind_some]
  exact endB_frz (frz_in _ _ _ _ _) (good_tr _)
theorem anodeD (l r : Tre) (k v : Bs) (H : List AObj) : callD (EV C) n_avl_node [l.av, bys k, bys v, r.av] H = some (ndT l k v r).av := callD_ok (by simp [goodL]) (aNode_ok l r k v)
theorem aRight_ok (a b c : Tre) (k v k2 v2 : Bs) : EV C n_avl_right [(ndT (ndT a k v b) k2 v2 c).av] [] = some ((ndT a k v (ndT b k2 v2 c)).av, [], []) := by
  refine avl_right_of ?_
  simp -implicitDefEqProofs only [new_z, Tre.kids, Tre.key, Tre.value, ix_l, ix_r, ZS, ZT, Nat.reduceAdd]
  rw [sto_t (b := 2) rfl rfl]
  simp -implicitDefEqProofs only [Tre.kids, Tre.key, Tre.value, ix_l, ix_r, anodeD, ZS, ZT, Nat.reduceAdd]
  rw [sto_t (b := 1) rfl rfl]
  simp -implicitDefEqProofs only [ZS, ZT, Nat.reduceAdd]
  exact endB_good (good_tr _)
theorem aLeft_ok (a b c : Tre) (k v k2 v2 : Bs) : EV C n_avl_left [(ndT a k v (ndT b k2 v2 c)).av] [] = some ((ndT (ndT a k v b) k2 v2 c).av, [], []) := by
  refine avl_left_of ?_
  simp -implicitDefEqProofs only [new_z, Tre.kids, Tre.key, Tre.value, ix_l, ix_r, ZS, ZT, Nat.reduceAdd]
  rw [sto_t (b := 2) rfl rfl]
  simp -implicitDefEqProofs only [Tre.kids, Tre.key, Tre.value, ix_l, ix_r, anodeD, ZS, ZT, Nat.reduceAdd]
  rw [sto_t (b := 1) rfl rfl]
  simp -implicitDefEqProofs only [ZS, ZT, Nat.reduceAdd]
  exact endB_good (good_tr _)
theorem aDepth_ok {t : Bt} (h : t.sml) (hd : t.dp ≤ 2^40) : EV C n_avl_depth [t.tre.av] [] = some (.int .i64 (t.dp : Int), [], []) := by
  refine avl_depth_of ?_
  simp -implicitDefEqProofs only [ZS, ZT, Nat.reduceAdd]
  rw [callK_ok (by simp) (even_ok t.tre (tre_ok h) (tre_formed h) (by rw [tre_dp]; exact hd)), tre_dp]
  simp -implicitDefEqProofs only [ZS, ZT, Nat.reduceAdd]
  exact endB_good rfl
theorem adepthD {t : Bt} (h : t.sml) (hd : t.dp ≤ 2^40) (H : List AObj) : callD (EV C) n_avl_depth [t.tre.av] H = some (.int .i64 (t.dp : Int)) := callD_ok (by simp) (aDepth_ok h hd)
theorem ld_tr3 (t : Tre) (o0 o1 o2 : AObj) (T : List AObj) : loadA true 5 (.ptr 3 1 0 0) (o0 :: o1 :: o2 :: .row 5 [t.av] :: T) = some t.av := ld_box rfl
theorem ld_tr3_s (t : Tre) (o0 o1 o2 : AObj) (T : List AObj) : loadA false 1 (.ptr 3 1 0 4) (o0 :: o1 :: o2 :: .row 5 [t.av] :: T) = some (kidsA t.kids) := ld_boxs rfl
theorem aLevel_ok {l r : Bt} (k v : Bs) (hl : l.sml) (hr : r.sml) (hk : k.length ≤ 80) (hv : v.length ≤ 1024) (bl : l.bal) (br : r.bal) (d1 : l.dp ≤ r.dp + 2) (d2 : r.dp ≤ l.dp + 2) (h1 : l.dp ≤ 2^30) (h2 : r.dp ≤ 2^30) :
    EV C n_avl_leveled [(Bt.nd l k v r).tre.av] [] = some ((Bt.lev l k v r).tre.av, [], []) := by
  refine avl_leveled_of ?_
  have e0 : IntKind.i64.wrap ((l.dp : Int) - (r.dp : Int)) = (l.dp : Int) - (r.dp : Int) := by rw [wrap64] <;> omega
  simp -implicitDefEqProofs only [new_z, bt_nd, Tre.kids, ix_l, ix_r, siz_tr, drawK_eq, drawK_T, ld_tr3, adepthD hl (show l.dp ≤ 2^40 by omega), adepthD hr (show r.dp ≤ 2^40 by omega), sub_int, e0, ZS, ZT, Nat.reduceAdd]
  by_cases c : l.dp = r.dp + 2
  · have c' : 1 < (l.dp : Int) - (r.dp : Int) := by omega
    rw [if_pos c']
    cases l with
    | lf => simp [Bt.dp] at c
    | nd a ka va b =>
      simp only [Bt.dp] at h1 c
      simp only [Bt.sml] at hl
      simp -implicitDefEqProofs only [bt_nd, Tre.kids, ix_l, ix_r, adepthD hl.1 (show a.dp ≤ 2^40 by omega), adepthD hl.2.1 (show b.dp ≤ 2^40 by omega), ZS, ZT, Nat.reduceAdd]
      by_cases d : (Bt.nd a ka va b).tlt < 0
      · have d' : (a.dp : Int) < (b.dp : Int) := by have : (a.dp : Int) - b.dp < 0 := d; omega
        rw [if_pos d']
        cases b with
        | lf => simp [Bt.dp] at d'; omega
        | nd b1 kb vb b2 =>
          have el : Bt.lev (Bt.nd a ka va (Bt.nd b1 kb vb b2)) k v r = Bt.nd (Bt.nd a ka va b1) kb vb (Bt.nd b2 k v r) := by unfold Bt.lev; rw [if_pos (by simpa only [Bt.dp] using c), if_pos d]; rfl
          rw [el]
          have lf : ∀ H, callD (EV C) n_avl_left [(ndT a.tre ka va (ndT b1.tre kb vb b2.tre)).av] H = some (ndT (ndT a.tre ka va b1.tre) kb vb b2.tre).av := fun H => callD_ok (by simp [goodL]) (aLeft_ok _ _ _ _ _ _ _)
          simp -implicitDefEqProofs only [bt_nd, Tre.kids, Tre.key, Tre.value, ix_l, ix_r, ld_tr3, lf, anodeD, ZS, ZT, Nat.reduceAdd]
          rw [sto_t2 (b := 0) rfl]
          simp -implicitDefEqProofs only [ZS, ZT, Nat.reduceAdd]
          rw [callK_ok (by simp) (aRight_ok _ _ _ _ _ _ _), sto_t (b := 1) rfl rfl]
          simp -implicitDefEqProofs only [ZS, ZT, Nat.reduceAdd]
          exact endB_good (good_tr _)
      · have d' : ¬ (a.dp : Int) < (b.dp : Int) := by have : ¬ (a.dp : Int) - b.dp < 0 := d; omega
        have el : Bt.lev (Bt.nd a ka va b) k v r = Bt.nd a ka va (Bt.nd b k v r) := by unfold Bt.lev; rw [if_pos (by simpa only [Bt.dp] using c), if_neg d]; rfl
        rw [if_neg d', el]
        rw [callK_ok (by simp) (aRight_ok _ _ _ _ _ _ _), sto_t (b := 1) rfl rfl]
        simp -implicitDefEqProofs only [ZS, ZT, Nat.reduceAdd]
        exact endB_good (good_tr _)
  · have c' : ¬ 1 < (l.dp : Int) - (r.dp : Int) := by omega
    rw [if_neg c']
    by_cases e : r.dp = l.dp + 2
    · have e' : (l.dp : Int) - (r.dp : Int) < -1 := by omega
      rw [if_pos e']
      cases r with
      | lf => simp [Bt.dp] at e
      | nd a ka va b =>
        simp only [Bt.dp] at h2 e
        simp only [Bt.sml] at hr
        simp -implicitDefEqProofs only [bt_nd, Tre.kids, ix_l, ix_r, ld_tr3, ld_tr3_s, adepthD hr.1 (show a.dp ≤ 2^40 by omega), adepthD hr.2.1 (show b.dp ≤ 2^40 by omega), ZS, ZT, Nat.reduceAdd]
        by_cases d : 0 < (Bt.nd a ka va b).tlt
        · have d' : (b.dp : Int) < (a.dp : Int) := by have : 0 < (a.dp : Int) - b.dp := d; omega
          rw [if_pos d']
          cases a with
          | lf => simp [Bt.dp] at d'; omega
          | nd b1 kb vb b2 =>
            have el : Bt.lev l k v (Bt.nd (Bt.nd b1 kb vb b2) ka va b) = Bt.nd (Bt.nd l k v b1) kb vb (Bt.nd b2 ka va b) := by unfold Bt.lev; rw [if_neg c, if_pos (by simpa only [Bt.dp] using e), if_pos d]; rfl
            rw [el]
            have lf : ∀ H, callD (EV C) n_avl_right [(ndT (ndT b1.tre kb vb b2.tre) ka va b.tre).av] H = some (ndT b1.tre kb vb (ndT b2.tre ka va b.tre)).av := fun H => callD_ok (by simp [goodL]) (aRight_ok _ _ _ _ _ _ _)
            simp -implicitDefEqProofs only [bt_nd, Tre.kids, Tre.key, Tre.value, ix_l, ix_r, ld_tr3, lf, anodeD, ZS, ZT, Nat.reduceAdd]
            rw [sto_t2 (b := 0) rfl]
            simp -implicitDefEqProofs only [ZS, ZT, Nat.reduceAdd]
            rw [callK_ok (by simp) (aLeft_ok _ _ _ _ _ _ _), sto_t (b := 1) rfl rfl]
            simp -implicitDefEqProofs only [ZS, ZT, Nat.reduceAdd]
            exact endB_good (good_tr _)
        · have d' : ¬ (b.dp : Int) < (a.dp : Int) := by have : ¬ 0 < (a.dp : Int) - b.dp := d; omega
          have el : Bt.lev l k v (Bt.nd a ka va b) = Bt.nd (Bt.nd l k v a) ka va b := by unfold Bt.lev; rw [if_neg c, if_pos (by simpa only [Bt.dp] using e), if_neg d]; rfl
          rw [if_neg d', el]
          rw [callK_ok (by simp) (aLeft_ok _ _ _ _ _ _ _), sto_t (b := 1) rfl rfl]
          simp -implicitDefEqProofs only [ZS, ZT, Nat.reduceAdd]
          exact endB_good (good_tr _)
    · have e' : ¬ (l.dp : Int) - (r.dp : Int) < -1 := by omega
      have el : Bt.lev l k v r = Bt.nd l k v r := by unfold Bt.lev; rw [if_neg c, if_neg e]
      rw [if_neg e', el, sto_t (b := 1) rfl rfl]
      simp -implicitDefEqProofs only [ZS, ZT, Nat.reduceAdd]
      exact endB_good (good_tr _)
theorem aPut_ok (k v : Bs) (hk : k.length ≤ 80) (hv : v.length ≤ 1024) : ∀ (t : Bt), t.sml → t.bal → t.dp ≤ 2^20 → EV C n_avl_put [t.tre.av, bys k, bys v] [] = some ((Bt.put k v t).tre.av, [], [])
  | .lf, _, _, _ => by
    refine avl_put_of ?_
    simp -implicitDefEqProofs only [new_z, ZS, ZT, Nat.reduceAdd]
    rw [if_pos (show (((Bt.lf).tre.kids.length : Nat) : Int) = 0 from rfl), fill_nil, fill_nil]
    rw [callK_nil (bs := [Tre.nil.av, bys k, bys v, Tre.nil.av]) (by simp [killsL, kills, kills_good _ (good_bys _)]) (frzL_cons (frz_nil0 _) (frzL_cons (frz_good _ _ (good_bys _)) (frzL_cons (frz_good _ _ (good_bys _)) (frzL_cons (frz_nil0 _) rfl)))) (by simp [goodL]) (aNode_ok _ _ k v), sto_t (b := 1) rfl rfl]
    simp -implicitDefEqProofs only [ZS, ZT, Nat.reduceAdd]
    exact endB_good (good_tr _)
  | .nd l k' v' r, hs, hb, hd => by
    simp only [Bt.sml] at hs
    simp only [Bt.bal] at hb
    simp only [Bt.dp] at hd
    have hl : ∀ H, callD (EV C) n_avl_put [l.tre.av, bys k, bys v] H = some (Bt.put k v l).tre.av := fun H => callD_ok (by simp [goodL]) (aPut_ok k v hk hv l hs.1 hb.1 (by omega))
    have hr : ∀ H, callD (EV C) n_avl_put [r.tre.av, bys k, bys v] H = some (Bt.put k v r).tre.av := fun H => callD_ok (by simp [goodL]) (aPut_ok k v hk hv r hs.2.1 hb.2.1 (by omega))
    have pl := put_bal k v hb.1
    have pr := put_bal k v hb.2.1
    have ll : ∀ H, callD (EV C) n_avl_leveled [(ndT (Bt.put k v l).tre k' v' r.tre).av] H = some (Bt.lev (Bt.put k v l) k' v' r).tre.av := fun H => callD_ok (by simp [goodL]) (aLevel_ok k' v' (sml_put hk hv hs.1) hs.2.1 hs.2.2.1 hs.2.2.2 pl.1 hb.2.1 (by omega) (by omega) (by omega) (by omega))
    have lr : ∀ H, callD (EV C) n_avl_leveled [(ndT l.tre k' v' (Bt.put k v r).tre).av] H = some (Bt.lev l k' v' (Bt.put k v r)).tre.av := fun H => callD_ok (by simp [goodL]) (aLevel_ok k' v' hs.1 (sml_put hk hv hs.2.1) hs.2.2.1 hs.2.2.2 hb.1 pr.1 (by omega) (by omega) (by omega) (by omega))
    refine avl_put_of ?_
    have e0 : ¬ ((([l.tre, r.tre] : List Tre).length : Nat) : Int) = 0 := by simp
    simp -implicitDefEqProofs only [new_z, bt_nd, Tre.kids, Tre.key, Tre.value, ZS, ZT, Nat.reduceAdd]
    rw [if_neg (by omega)]
    simp -implicitDefEqProofs only [Tre.kids, Tre.key, Tre.value, ix_l, ix_r, siz_tr, drawK_eq, drawK_T, ld_tr3, CompareK, cmp_eq0, cmp_lt, ZS, ZT, Nat.reduceAdd]
    unfold Bt.put
    by_cases c : k = k'
    · rw [if_pos c, if_pos c]
      subst c
      rw [callK_ok (by simp) (aNode_ok _ _ _ _), sto_t (b := 1) rfl rfl]
      simp -implicitDefEqProofs only [ZS, ZT, Nat.reduceAdd]
      exact endB_good (good_tr _)
    · rw [if_neg c, if_neg c]
      cases hc : ltB k k' with
      | true =>
        simp -implicitDefEqProofs only [Tre.kids, Tre.key, Tre.value, ix_l, ix_r, ld_tr3, hl, anodeD, ll, ZS, ZT, Nat.reduceAdd]
        rw [sto_t (b := 1) rfl rfl]
        simp -implicitDefEqProofs only [ZS, ZT, Nat.reduceAdd]
        exact endB_good (good_tr _)
      | false =>
        simp -implicitDefEqProofs only [Bool.false_eq_true, Tre.kids, Tre.key, Tre.value, ix_l, ix_r, ld_tr3, hr, anodeD, lr, ZS, ZT, Nat.reduceAdd]
        rw [sto_t (b := 1) rfl rfl]
        simp -implicitDefEqProofs only [ZS, ZT, Nat.reduceAdd]
        exact endB_good (good_tr _)
end Go.Pm
namespace Go.Pm
open Go.Proofs
set_option linter.unusedVariables false
set_option linter.unusedSimpArgs false
theorem kidsM (k : Int) (a b c : Bs) (ks : List Tre) : (Tre.mk k a b c ks).kids = ks := rfl
theorem keyM (k : Int) (a b c : Bs) (ks : List Tre) : (Tre.mk k a b c ks).key = a := rfl
theorem valueM (k : Int) (a b c : Bs) (ks : List Tre) : (Tre.mk k a b c ks).value = b := rfl
theorem min_sml : ∀ (t : Bt) (k v : Bs), t.sml → k.length ≤ 80 → v.length ≤ 1024 → (t.min k v).1.length ≤ 80 ∧ (t.min k v).2.length ≤ 1024
  | .lf, k, v, _, a, b => ⟨a, b⟩
  | .nd l k' v' r, k, v, hs, _, _ => by simp only [Bt.sml] at hs; exact min_sml l k' v' hs.1 hs.2.2.1 hs.2.2.2
theorem ld4 (t : Tre) (o0 o1 o2 o3 : AObj) (T : List AObj) : loadA false 1 (.ptr 4 1 0 4) (o0 :: o1 :: o2 :: o3 :: .row 5 [t.av] :: T) = some (kidsA t.kids) := ld_boxs rfl
theorem ld4a (t : Tre) (o0 o1 o2 o3 : AObj) (T : List AObj) : loadA false 1 (.ptr 4 1 0 1) (o0 :: o1 :: o2 :: o3 :: .row 5 [t.av] :: T) = some (bys t.key) := ldb_a rfl
theorem ld4b (t : Tre) (o0 o1 o2 o3 : AObj) (T : List AObj) : loadA false 1 (.ptr 4 1 0 2) (o0 :: o1 :: o2 :: o3 :: .row 5 [t.av] :: T) = some (bys t.value) := ldb_b rfl
theorem loadA_trc (t : Tre) (H : List AObj) : loadA false 1 (.ip (List.drop 4 t.av.cells)) H = some (kidsA t.kids) := by rw [cells_tr]; rfl
theorem take_J14 (t0 : Tre) (l r : Bt) (hl : l.sml) (hr : r.sml) (bl : l.bal) (d1 : l.dp ≤ r.dp + 1) (d2 : r.dp ≤ l.dp + 1) (h1 : l.dp ≤ 2^20) (br : r.bal)
    (ih : ∀ k, EV C n_avl_take [r.tre.av, bys k] [] = some ((r.del k).tre.av, [], [])) (hm1 : (r.min [] []).1.length ≤ 80) (hm2 : (r.min [] []).2.length ≤ 1024) : ∀ (a b : Bt) (k v : Bs) (E : List Nat), (Bt.nd a k v b).min [] [] = r.min [] [] →
    avl_take_J14 0 (.ptr 1 1 0 0) (.ptr 2 1 0 0) (.ptr 3 1 0 0) (.ptr 4 1 0 0) [.row 5 [t0.av], .row 5 [zTre], .row 5 [l.tre.av], .row 5 [r.tre.av], .row 5 [(Bt.nd a k v b).tre.av]] E = some ((Bt.lev l (r.min [] []).1 (r.min [] []).2 (r.del (r.min [] []).1)).tre.av, [], [])
  | .lf, b, k, v, E, hm => by
    refine avl_take_J14_of ?_
    have hk : r.min [] [] = (k, v) := hm.symm
    rw [hk] at hm1 hm2 ⊢
    simp only at hm1 hm2 ⊢
    have e0 : ¬ ((0 : Int) < ((Bt.lf.tre.kids.length : Nat) : Int)) := by show ¬ (0 : Int) < 0; decide
    have pd := del_bal (t := r) k br
    have td : ∀ H, callD (EV C) n_avl_take [r.tre.av, bys k] H = some (r.del k).tre.av := fun H => callD_ok (by simp [goodL]) (ih k)
    have ll : ∀ H, callD (EV C) n_avl_leveled [(ndT l.tre k v (r.del k).tre).av] H = some (Bt.lev l k v (r.del k)).tre.av := fun H => callD_ok (by simp [goodL]) (aLevel_ok k v hl (sml_del k hr) hm1 hm2 bl pd.1 (by omega) (by omega) (by omega) (by omega))
    simp -implicitDefEqProofs only [ld4, ld4a, ld4b, bt_nd, kidsM, keyM, valueM, ix_l, ix_r, loadA_trc, e0, ld_tr3, td, anodeD, ll, ZS, ZT, Nat.reduceAdd]
    rw [sto_t (b := 1) rfl rfl]
    simp -implicitDefEqProofs only [ZS, ZT, Nat.reduceAdd]
    exact endB_good (good_tr _)
  | .nd a1 k1 v1 b1, b, k, v, E, hm => by
    refine avl_take_J14_of ?_
    have e0 : ((0 : Int) < (([a1.tre, b1.tre].length : Nat) : Int)) := by simp
    simp -implicitDefEqProofs only [ld4, bt_nd, kidsM, ix_l, ix_r, loadA_trc, ZS, ZT, Nat.reduceAdd]
    rw [if_pos (by omega), sto_t2 (b := 4) rfl]
    simp -implicitDefEqProofs only [ZS, ZT, Nat.reduceAdd]
    exact take_J14 t0 l r hl hr bl d1 d2 h1 br ih hm1 hm2 a1 b1 k1 v1 _ hm
theorem aTake_ok : ∀ (t : Bt) (k : Bs), t.sml → t.bal → t.dp ≤ 2^20 → EV C n_avl_take [t.tre.av, bys k] [] = some ((t.del k).tre.av, [], [])
  | .lf, k, _, _, _ => by
    refine avl_take_of ?_
    simp -implicitDefEqProofs only [new_z, ZS, ZT, Nat.reduceAdd]
    rw [if_pos (show (((Bt.lf).tre.kids.length : Nat) : Int) = 0 from rfl), sto_t (b := 1) rfl rfl]
    simp -implicitDefEqProofs only [ZS, ZT, Nat.reduceAdd]
    exact endB_good (good_tr _)
  | .nd l k' v' r, k, hs, hb, hd => by
    simp only [Bt.sml] at hs
    simp only [Bt.bal] at hb
    simp only [Bt.dp] at hd
    have ihl := aTake_ok l k hs.1 hb.1 (by omega)
    have ihr := fun k => aTake_ok r k hs.2.1 hb.2.1 (by omega)
    have hl : ∀ H, callD (EV C) n_avl_take [l.tre.av, bys k] H = some (l.del k).tre.av := fun H => callD_ok (by simp [goodL]) ihl
    have hr : ∀ H, callD (EV C) n_avl_take [r.tre.av, bys k] H = some (r.del k).tre.av := fun H => callD_ok (by simp [goodL]) (ihr k)
    have pl := del_bal (t := l) k hb.1
    have pr := del_bal (t := r) k hb.2.1
    have ll : ∀ H, callD (EV C) n_avl_leveled [(ndT (l.del k).tre k' v' r.tre).av] H = some (Bt.lev (l.del k) k' v' r).tre.av := fun H => callD_ok (by simp [goodL]) (aLevel_ok k' v' (sml_del k hs.1) hs.2.1 hs.2.2.1 hs.2.2.2 pl.1 hb.2.1 (by omega) (by omega) (by omega) (by omega))
    have lr : ∀ H, callD (EV C) n_avl_leveled [(ndT l.tre k' v' (r.del k).tre).av] H = some (Bt.lev l k' v' (r.del k)).tre.av := fun H => callD_ok (by simp [goodL]) (aLevel_ok k' v' hs.1 (sml_del k hs.2.1) hs.2.2.1 hs.2.2.2 hb.1 pr.1 (by omega) (by omega) (by omega) (by omega))
    refine avl_take_of ?_
    simp -implicitDefEqProofs only [new_z, bt_nd, kidsM, keyM, valueM, ZS, ZT, Nat.reduceAdd]
    rw [if_neg (by omega)]
    simp -implicitDefEqProofs only [kidsM, keyM, valueM, ix_l, ix_r, siz_tr, drawK_eq, drawK_T, ld_tr3, CompareK, cmp_gt, cmp_lt, ZS, ZT, Nat.reduceAdd]
    rw [Bt.del]
    cases hc : ltB k k' with
    | true =>
      simp -implicitDefEqProofs only [kidsM, keyM, valueM, ix_l, ix_r, ld_tr3, hl, anodeD, ll, ZS, ZT, Nat.reduceAdd]
      rw [sto_t (b := 1) rfl rfl]
      simp -implicitDefEqProofs only [ZS, ZT, Nat.reduceAdd]
      exact endB_good (good_tr _)
    | false =>
      simp -implicitDefEqProofs only [Bool.false_eq_true, ZS, ZT, Nat.reduceAdd]
      cases hg : ltB k' k with
      | true =>
        simp -implicitDefEqProofs only [kidsM, keyM, valueM, ix_l, ix_r, ld_tr3, hr, anodeD, lr, ZS, ZT, Nat.reduceAdd]
        rw [sto_t (b := 1) rfl rfl]
        simp -implicitDefEqProofs only [ZS, ZT, Nat.reduceAdd]
        exact endB_good (good_tr _)
      | false =>
        simp -implicitDefEqProofs only [Bool.false_eq_true, ld_tr3_s, ld_tr3, ZS, ZT, Nat.reduceAdd]
        cases l with
        | lf =>
          rw [if_pos (show (((Bt.lf).tre.kids.length : Nat) : Int) = 0 from rfl), sto_t (b := 1) rfl rfl]
          simp -implicitDefEqProofs only [Bt.join, ZS, ZT, Nat.reduceAdd]
          exact endB_good (good_tr _)
        | nd a ka va b =>
          cases r with
          | lf =>
            simp -implicitDefEqProofs only [bt_nd, kidsM, ZS, ZT, Nat.reduceAdd]
            rw [if_neg (by omega), if_pos (show (((Bt.lf).tre.kids.length : Nat) : Int) = 0 from rfl), sto_t (b := 1) rfl rfl]
            simp -implicitDefEqProofs only [Bt.join, bt_nd, ZS, ZT, Nat.reduceAdd]
            exact endB_good (good_tr _)
          | nd c kc vc d =>
            have mm := min_sml (.nd c kc vc d) [] [] hs.2.1 (by simp) (by simp)
            have J := take_J14 (ndT (Bt.nd a ka va b).tre k' v' (Bt.nd c kc vc d).tre) (.nd a ka va b) (.nd c kc vc d) hs.1 hs.2.1 hb.1 hb.2.2.1 hb.2.2.2 (by omega) hb.2.1 ihr mm.1 mm.2 c d kc vc
            simp -implicitDefEqProofs only [bt_nd, kidsM, ZS, ZT, Nat.reduceAdd]
            rw [if_neg (by omega), if_neg (by omega), sto_t (b := 4) rfl rfl]
            simp -implicitDefEqProofs only [Bt.join, ZS, ZT, Nat.reduceAdd]
            exact J _ rfl
def askF (t : Tre) (k v : Bs) : Int := if isF t = true then (if 80 < k.length ∨ 1024 < v.length then 1 else 0) else 3
theorem asked_ok (t : Tre) (ht : t.ok) (hn : (nodesF t).length ≤ 2^40) (k v : Bs) : EV C n_avl_asked [t.av, bys k, bys v] [] = some (errA (askF t k v), [], []) := by
  refine avl_asked_of ?_
  simp -implicitDefEqProofs only [ZS, ZT, Nat.reduceAdd]
  rw [callK_ok (by simp) (avlIs_ok t ht hn)]
  unfold askF
  cases hi : isF t with
  | false =>
    simp -implicitDefEqProofs only [Bool.false_eq_true, not_bool, ZS, ZT, Nat.reduceAdd]
    exact endB_good (v := errA 3) rfl
  | true =>
    simp -implicitDefEqProofs only [not_bool, ZS, ZT, Nat.reduceAdd]
    by_cases c1 : 80 < k.length
    · have c1' : (80 : Int) < (k.length : Int) := by omega
      rw [if_pos c1', if_pos (.inl c1)]
      exact endB_good (v := errA 1) rfl
    · have c1' : ¬ (80 : Int) < (k.length : Int) := by omega
      rw [if_neg c1']
      by_cases c2 : 1024 < v.length
      · have c2' : (1024 : Int) < (v.length : Int) := by omega
        rw [if_pos c2', if_pos (.inr c2)]
        exact endB_good (v := errA 1) rfl
      · have c2' : ¬ (1024 : Int) < (v.length : Int) := by omega
        rw [if_neg c2', if_neg (by omega)]
        exact endB_good (v := errA 0) rfl
theorem BInv.good {t : Bt} {n : Nat} (h : BInv t n) (hn : n < 2^20) : Good t := ⟨h.sml, h.bal, h.srt, by have := bal_dp h.bal (by have := h.len; omega); omega⟩
theorem BInv.nodes {t : Bt} {n : Nat} (h : BInv t n) (hn : n < 2^20) : (nodesF t.tre).length ≤ 2^40 := by rw [tre_len]; have := h.len; omega
theorem BInv.is' {t : Bt} {n : Nat} (h : BInv t n) (hn : n < 2^20) : isF t.tre = true := (h.good hn).is
theorem aPutK_ok (k v : Bs) (hk : k.length ≤ 80) (hv : v.length ≤ 1024) {t : Bt} {n : Nat} (h : BInv t n) (hn : n < 2^20) : EV C n_avl_Put [t.tre.av, bys k, bys v] [] = some (.tup [(Bt.put k v t).tre.av, .nili], [], []) := by
  refine avl_Put_of ?_
  have g := h.good hn
  simp -implicitDefEqProofs only [new_z, ZS, ZT, Nat.reduceAdd]
  have A := asked_ok t.tre (tre_ok h.sml) (h.nodes hn) k v
  have ea : askF t.tre k v = 0 := by unfold askF; rw [h.is' hn, if_pos rfl, if_neg (by omega)]
  rw [ea] at A
  rw [callK_ok (by simp) A]
  have gd := g.dp
  have P : ∀ H, callD (EV C) n_avl_put [t.tre.av, bys k, bys v] H = some (Bt.put k v t).tre.av := fun H => callD_ok (by simp) (aPut_ok k v hk hv t h.sml h.bal (by omega))
  have ck : ∀ H, callD (EV C) n_Clone_byte [bys k] H = some (bys k) := fun H => callD_ok (by simp) (Clone_byte_ok k (by omega))
  have cv : ∀ H, callD (EV C) n_Clone_byte [bys v] H = some (bys v) := fun H => callD_ok (by simp) (Clone_byte_ok v (by omega))
  simp -implicitDefEqProofs only [neqE0, ck, cv, P, ZS, ZT, Nat.reduceAdd]
  rw [sto_t (b := 1) rfl rfl]
  simp -implicitDefEqProofs only [ZS, ZT, Nat.reduceAdd]
  exact endB_good (by simp [AV.good, goodL])
def resG (o : Option Bs) (n : Int) : AV := .tup [bys (o.getD []), .bool o.isSome, errA n]
@[simp] theorem good_resG (o : Option Bs) (n : Int) : (resG o n).good = true := by simp [resG, AV.good, goodL]
theorem get_J4 (k : Bs) : ∀ (t : Bt) (E : List Nat), t.sml → avl_Get_J4 0 (bys k) (.ptr 0 1 0 0) [.row 5 [t.tre.av]] E = some (resG (t.get k) 0, [], [])
  | .lf, E, hs => by
    refine avl_Get_J4_of ?_
    have e0 : ¬ ((0 : Int) < ((Bt.lf.tre.kids.length : Nat) : Int)) := by show ¬ (0 : Int) < 0; decide
    simp -implicitDefEqProofs only [e0, ZS, ZT, Nat.reduceAdd]
    exact endB_frz rfl rfl
  | .nd l k' v' r, E, hs => by
    simp only [Bt.sml] at hs
    refine avl_Get_J4_of ?_
    simp -implicitDefEqProofs only [bt_nd, kidsM, keyM, valueM, CompareK, cmp_eq0, cmp_lt, ZS, ZT, Nat.reduceAdd]
    rw [if_pos (by omega)]
    unfold Bt.get
    by_cases c : k = k'
    · rw [if_pos c, if_pos c]
      rw [callK_ok (by simp) (Clone_byte_ok v' (by omega))]
      exact endB_good (by simp [AV.good, goodL])
    · rw [if_neg c, if_neg c]
      cases hc : ltB k k' with
      | true =>
        simp -implicitDefEqProofs only [kidsM, ix_l, ix_r, ZS, ZT, Nat.reduceAdd]
        rw [sto_t2 (b := 0) rfl]
        simp -implicitDefEqProofs only [ZS, ZT, Nat.reduceAdd]
        exact get_J4 k l _ hs.1
      | false =>
        simp -implicitDefEqProofs only [Bool.false_eq_true, Tre.kids, ix_l, ix_r, ZS, ZT, Nat.reduceAdd]
        rw [sto_t2 (b := 0) rfl]
        simp -implicitDefEqProofs only [ZS, ZT, Nat.reduceAdd]
        exact get_J4 k r _ hs.2.1
theorem aGet_ok (k : Bs) (hk : k.length ≤ 80) {t : Bt} {n : Nat} (h : BInv t n) (hn : n < 2^20) : EV C n_avl_Get [t.tre.av, bys k] [] = some (resG (t.get k) 0, [], []) := by
  refine avl_Get_of ?_
  have A := asked_ok t.tre (tre_ok h.sml) (h.nodes hn) k []
  have ea : askF t.tre k [] = 0 := by unfold askF; rw [h.is' hn, if_pos rfl, if_neg (by simp; omega)]
  rw [ea] at A
  simp -implicitDefEqProofs only [ZS, ZT, Nat.reduceAdd]
  rw [callK_nil (bs := [t.tre.av, bys k, bys []]) (by simp [killsL, kills, kills_good _ (good_tr _), kills_good _ (good_bys _)]) (frzL_cons (frz_good _ _ (good_tr _)) (frzL_cons (frz_good _ _ (good_bys _)) (frzL_cons rfl rfl))) (by simp [goodL]) A]
  simp -implicitDefEqProofs only [neqE0, ZS, ZT, Nat.reduceAdd]
  exact get_J4 k t _ h.sml
def delF (t : Bt) (k : Bs) : Bt × Bool := if (t.get k).isSome = true then (t.del k, true) else (t, false)
theorem aDel_ok (k : Bs) (hk : k.length ≤ 80) {t : Bt} {n : Nat} (h : BInv t n) (hn : n < 2^20) : EV C n_avl_Delete [t.tre.av, bys k] [] = some (.tup [(delF t k).1.tre.av, .bool (delF t k).2, .nili], [], []) := by
  refine avl_Delete_of ?_
  have gd := (h.good hn).dp
  simp -implicitDefEqProofs only [new_z, ZS, ZT, Nat.reduceAdd]
  rw [callK_ok (by simp) (aGet_ok k hk h hn)]
  unfold delF
  simp -implicitDefEqProofs only [resG, neqE0, not_bool, ZS, ZT, Nat.reduceAdd]
  cases hg : (t.get k).isSome with
  | false =>
    simp -implicitDefEqProofs only [Bool.false_eq_true, ZS, ZT, Nat.reduceAdd]
    rw [sto_t (b := 1) rfl rfl]
    simp -implicitDefEqProofs only [ZS, ZT, Nat.reduceAdd]
    exact endB_good (by simp [AV.good, goodL])
  | true =>
    simp -implicitDefEqProofs only [ZS, ZT, Nat.reduceAdd]
    rw [callK_ok (by simp) (aTake_ok t k h.sml h.bal (by omega)), sto_t (b := 1) rfl rfl]
    simp -implicitDefEqProofs only [ZS, ZT, Nat.reduceAdd]
    exact endB_good (by simp [AV.good, goodL])
end Go.Pm
