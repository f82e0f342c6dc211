/- The laws CheckTakes, CheckOwn, CheckBytes, CheckLess. -/
import Derived.Test.YtclfnechcblmoaaDoorW23
import Derived.Test.YtclfnechcblmoaaDoorT9
import Derived.Test.YtclfnechcblmoaaDoorW11
namespace Go.Pm
open Go.Proofs
set_option linter.unusedVariables false
set_option linter.unusedSimpArgs false
/-! ### how many parts -/
mutual
def parts : Tre → Nat
  | .mk k a b c ks => 1 + partsL ks
def partsL : List Tre → Nat
  | [] => 0
  | t :: ts => parts t + partsL ts
end
theorem parts_eq (t : Tre) : parts t = 1 + partsL t.kids := by cases t with | mk k a b c ks => rw [parts]; rfl
theorem lightL_parts {d : Int} : ∀ (ks : List Tre), (∀ t ∈ ks, ∀ l d, 0 ≤ lightF t l d → lightF t l d + (parts t : Int) ≤ l) → ∀ l, 0 ≤ lightL ks l d → lightL ks l d + (partsL ks : Int) ≤ l
  | [], _, l, h => by rw [lightL] at h ⊢; simp [partsL]
  | t :: ts, hh, l, h => by
    rw [lightL] at h ⊢
    rw [partsL]
    split at h
    · omega
    · rename_i hn
      rw [if_neg hn]
      have h1 := hh t (by simp) l (d - 1) (by omega)
      have h2 := lightL_parts (d := d) ts (fun k hk => hh k (List.mem_cons_of_mem _ hk)) _ h
      omega
theorem lightF_parts (t : Tre) : ∀ l d, 0 ≤ lightF t l d → lightF t l d + (parts t : Int) ≤ l := by
  induction t using Tre.ind with
  | h t ih =>
    intro l d h
    rw [lightF_eq] at h ⊢
    split at h
    · omega
    · rename_i h1
      split at h
      · omega
      · rename_i h2
        rw [if_neg h1, if_neg h2]
        have := lightL_parts (d := d) t.kids ih (l - 1) h
        rw [parts_eq]; omega
theorem items_parts (t : Tre) : (itemsF t).length ≤ parts t := by
  induction t using Tre.ind with
  | h t ih =>
    cases t with
    | mk k a b c ks =>
      rw [itemsF, parts]
      split
      · simp
      · split
        · simp
        · match ks, ih with
          | [], _ => simp [itemsL]
          | [x], _ => simp [itemsL]
          | x :: y :: tl, ih =>
            have h1 := ih x (by simp [Tre.kids])
            have h2 := ih y (by simp [Tre.kids])
            simp only [itemsL, partsL, List.length_append, List.length_cons]; omega
theorem nodes_parts (t : Tre) : (nodesF t).length ≤ parts t := by
  induction t using Tre.ind with
  | h t ih =>
    cases t with
    | mk k a b c ks =>
      rw [nodesF, parts]
      match ks, ih with
      | [], _ => simp [nodesL]
      | [x], _ => simp [nodesL]
      | x :: y :: tl, ih =>
        have h1 := ih x (by simp [Tre.kids])
        have h2 := ih y (by simp [Tre.kids])
        simp only [nodesL, partsL, List.length_append, List.length_cons]; omega
def small3 (t : Tre) : Bool := decide (0 ≤ lightF t 300 100)
theorem small3_ok (t : Tre) (ht : t.ok) : EV C n_law08_small [t.av] [] = some (.bool (small3 t), [], []) := by
  refine law08_small_of ?_
  simp only [List.length_nil, new_tr, List.nil_append, ld_tr0, Option.bind_some]
  rw [callK_ok (by simp) (Light_ok t ht 300 100 (by decide) (by decide) (by decide) (by decide))]
  simp only [geq_int, Option.bind_some]
  exact endB_good rfl
theorem small3_parts {t : Tre} (h : small3 t = true) : parts t ≤ 300 := by
  simp only [small3, decide_eq_true_eq] at h
  have := lightF_parts t 300 100 h
  omega
/-! ### up -/
theorem of3 : ofF 1 [3] = [8] := by kernel_rfl
theorem chk_up1 : chkF 1 [8] ⟨[], [], true⟩ Tre.nil = (0, []) := by
  have hd : digF 1 Tre.nil = (0, [8]) := by
    have : toldF 1 Tre.nil = some [8] := by rw [told_none 1 Tre.nil rfl, of3]
    have hc : checkF Tre.nil = 0 := by kernel_rfl
    simp [digF, wOk, hc, this]
  have hn : nodesF Tre.nil = [] := nodes_nil rfl
  unfold chkF
  rw [hd, hn]
  simp [wOk, risN, risK, behindF, open_none _ (show Tre.nil.kind = 0 from rfl), pairsF]
theorem chk_up2 : chkF 1 [255] ⟨[], [], true⟩ (Tre.cut [255]) = (8, []) := by
  have hd : digF 1 (Tre.cut [255]) = (0, [255]) := by
    have : toldF 1 (Tre.cut [255]) = some [255] := by rw [told_cut 1 (Tre.cut [255]) rfl]; rfl
    have hc : checkF (Tre.cut [255]) = 0 := by kernel_rfl
    simp [digF, wOk, hc, this]
  have hn : nodesF (Tre.cut [255]) = [] := nodes_nil rfl
  unfold chkF
  rw [hd, hn]
  simp [wOk, risN, risK, behindF, open_cut _ (show (Tre.cut [255]).kind = 3 from rfl), emptyF]
theorem up8_ok : EV C n_law08_up [] [] = some (.bool true, [], []) := by
  refine law08_up_of ?_
  have fs : ∀ (K : List AV → Option R3), (fillB (AV.cells (.agg [.nils, .nils, (.bool false)])) [(2, 1, (.bool true))]).bind K = K [.nils, .nils, .bool true] := fun K => rfl
  have zs : ∀ H, frz H (.agg [.nils, .nils, .bool true]) = some (Spn.av ⟨[], [], true⟩) := fun H => rfl
  simp only [fs, fill_nil]
  rw [lit0 8 8 rfl]
  rw [callK_nil (bs := [.int .i64 1, bys [8], Spn.av ⟨[], [], true⟩, Tre.nil.av]) (by simp [killsL, kills, kills_good _ (good_bys [8])]) (frzL_cons rfl (frzL_cons (frz_good _ _ (good_bys [8])) (frzL_cons (zs _) (frzL_cons (frz_nil0 _) rfl)))) (by simp [goodL, AV.good]) (Chk_ok 1 [8] ⟨[], [], true⟩ .nil nil_ok (fun _ => by rw [nodes_nil rfl]; simp))]
  simp -implicitDefEqProofs only [chk_up1, resC, ZS, Nat.reduceAdd]
  rw [lit0 255 255 rfl, lit0 255 255 rfl]
  rw [fill_cut [255], callK_nil (bs := [.int .i64 1, bys [255], Spn.av ⟨[], [], true⟩, (Tre.cut [255]).av]) (by simp [killsL, kills, kills_good _ (good_bys [255])]) (frzL_cons rfl (frzL_cons (frz_good _ _ (good_bys [255])) (frzL_cons (zs _) (frzL_cons (frz_cut0 [255] _) rfl)))) (by simp [goodL, AV.good]) (Chk_ok 1 [255] ⟨[], [], true⟩ (.cut [255]) (tcut_ok (by simp)) (fun _ => by rw [nodes_nil rfl]; simp))]
  simp -implicitDefEqProofs only [chk_up2, resC, lenV_prs, List.length_nil, Int.natCast_zero, eqlE0, eqlE _ _ _ (show (8 : Int) ≠ 0 by decide), ZS, Nat.reduceAdd]
  exact endB_good rfl
/-! ### the laws -/
theorem chk_range (w : Int) (root : Bs) (s : Spn) (p : Tre) : 0 ≤ (chkF w root s p).1 ∧ (chkF w root s p).1 ≤ 8 := by
  have := dig_range w p
  unfold chkF behindF
  split
  · simp
  · split
    · simp only; omega
    · split
      · simp
      · split
        · split <;> simp
        · simp
theorem chk_len (w : Int) (root : Bs) (s : Spn) (p : Tre) : (chkF w root s p).2.length ≤ (nodesF p).length := by
  unfold chkF behindF
  split
  · simp
  · split
    · simp
    · split
      · simp
      · split
        · split
          · simp
          · simp only [pairsF, List.length_map]; exact List.length_filter_le _ _
        · simp
theorem CheckTakes_ok (w : Int) (root : Bs) (s : Spn) (p : Tre) (hp : p.ok) : EV C n_law08_CheckTakes [.int .i64 w, bys root, s.av, p.av] [] = some (.bool true, [], []) := by
  refine law08_CheckTakes_of ?_
  simp -implicitDefEqProofs only [new_sp, ZS, ZT, Nat.reduceAdd]
  rw [callK_ok rfl up8_ok]
  simp -implicitDefEqProofs only [ZS, ZT, Nat.reduceAdd]
  rw [callK_ok (by simp) (small3_ok p hp)]
  cases hs : small3 p with
  | false => simp -implicitDefEqProofs only [ZS, ZT, Nat.reduceAdd]; exact endB_good rfl
  | true =>
    have hpt := small3_parts hs
    have hn := nodes_parts p
    have hi := items_parts p
    have hr := chk_range w root s p
    have hl := chk_len w root s p
    simp -implicitDefEqProofs only [ld_sp0, ZS, ZT, Nat.reduceAdd]
    rw [callK_ok (by simp) (Chk_ok w root s p hp (fun _ => by omega))]
    simp -implicitDefEqProofs only [resC, ZS, ZT, Nat.reduceAdd]
    rw [callD_ok (env := EV C) rfl Made_ok]
    simp -implicitDefEqProofs only [ld_sp0, ZS, ZT, Nat.reduceAdd]
    rw [callD_ok (env := EV C) (by simp [good_tab]) (rChk_ok w root s p hp (fun _ => by omega))]
    simp -implicitDefEqProofs only [resR8, ZS, ZT, Nat.reduceAdd]
    rw [callK_ok (by simp) (Code_ok _ hr.1 (by omega))]
    simp -implicitDefEqProofs only [ZS, ZT, Nat.reduceAdd]
    rw [callK_ok (by simp) (Same_ok _ _ (by omega))]
    simp only [decide_true]
    exact endB_good rfl
theorem CheckOwn_ok (w : Int) (s : Spn) (p : Tre) (hp : p.ok) : EV C n_law08_CheckOwn [.int .i64 w, s.av, p.av] [] = some (.bool true, [], []) := by
  refine law08_CheckOwn_of ?_
  simp -implicitDefEqProofs only [new_sp, ZS, ZT, Nat.reduceAdd]
  rw [callK_ok rfl up8_ok]
  simp -implicitDefEqProofs only [ZS, ZT, Nat.reduceAdd]
  rw [callK_ok (by simp) (small3_ok p hp)]
  simp -implicitDefEqProofs only [ZS, ZT, Nat.reduceAdd]
  rw [callK_ok (by simp) (Digest_ok w p hp)]
  cases hs : small3 p with
  | false => simp -implicitDefEqProofs only [resD, ZS, ZT, Nat.reduceAdd]; exact endB_good rfl
  | true =>
    have hpt := small3_parts hs
    have hn := nodes_parts p
    have hi := items_parts p
    by_cases hd : (digF w p).1 = 0
    · have hr := chk_range w (digF w p).2 s p
      have hl := chk_len w (digF w p).2 s p
      simp -implicitDefEqProofs only [resD, ld_sp0, neqE0, hd, ZS, ZT, Nat.reduceAdd]
      rw [callK_ok (by simp) (Chk_ok w _ s p hp (fun _ => by omega))]
      simp -implicitDefEqProofs only [resC, ZS, ZT, Nat.reduceAdd]
      rw [callD_ok (env := EV C) rfl Made_ok]
      simp -implicitDefEqProofs only [ld_sp0, ZS, ZT, Nat.reduceAdd]
      rw [callD_ok (env := EV C) (by simp [good_tab]) (rChk_ok w _ s p hp (fun _ => by omega))]
      simp -implicitDefEqProofs only [resR8, ZS, ZT, Nat.reduceAdd]
      rw [callK_ok (by simp) (Code_ok _ hr.1 (by omega))]
      simp -implicitDefEqProofs only [ZS, ZT, Nat.reduceAdd]
      rw [callK_ok (by simp) (Same_ok _ _ (by omega))]
      simp only [decide_true]
      exact endB_good rfl
    · simp -implicitDefEqProofs only [resD, ld_sp0, neqE0, hd, ZS, ZT, Nat.reduceAdd]
      exact endB_good rfl
/-! ### CheckBytes -/
theorem chk_own {w : Int} {p : Tre} (hp : p.ok) (hd : (digF w p).1 = 0) (s : Spn) : chkF w (digF w p).2 s p = if risN (nodesF p) = true then behindF s p (nodesF p) else (7, []) := by
  obtain ⟨hw, gp, dp⟩ := gd_of hp hd
  have hl := gp.len hw
  unfold chkF
  rw [if_neg (by rw [dp]; simp [hw, hl]), if_neg (by simp [hd]), if_neg (by simp)]
theorem risK_pair : ∀ {l : List Bs}, risK l = true → l.Pairwise fun a b => ltB a b = true
  | [], _ => List.Pairwise.nil
  | [a], _ => List.pairwise_singleton _ _
  | a :: b :: l, h => by
    simp only [risK, Bool.and_eq_true] at h
    have hp := risK_pair h.2
    refine List.Pairwise.cons (fun x hx => ?_) hp
    rcases List.mem_cons.1 hx with rfl | hx
    · exact h.1
    · exact ltB_trans h.1 ((List.pairwise_cons.1 hp).1 x hx)
theorem in_point {k x : Bs} (h : inF (pointF k) x = true) : x = k := by
  simp only [inF, pointF, Bool.false_or, Bool.and_eq_true, Bool.not_eq_true', lt_next] at h
  exact ltB_tri h.1 (by simpa using h.2)
theorem point_one {k : Bs} {l : List Tre} (hr : risN l = true) : (pairsF (pointF k) l).length ≤ 1 := by
  have hp := risK_pair hr
  have h1 : ((l.filter (inN (pointF k))).map Tre.key).Pairwise fun a b => ltB a b = true := by
    rw [List.pairwise_map] at hp ⊢
    exact hp.filter _
  have h2 : ∀ x ∈ (l.filter (inN (pointF k))).map Tre.key, x = k := fun x hx => by
    obtain ⟨t, ht, rfl⟩ := List.mem_map.1 hx
    have := (List.mem_filter.1 ht).2
    simp only [inN, Bool.and_eq_true] at this
    exact in_point this.2
  have h3 : ((l.filter (inN (pointF k))).map Tre.key).length ≤ 1 := by
    rcases hx : (l.filter (inN (pointF k))).map Tre.key with _ | ⟨a, _ | ⟨b, m⟩⟩
    · simp
    · simp
    · exfalso
      rw [hx] at h1 h2
      have e1 := h2 a (by simp); have e2 := h2 b (by simp)
      have := (List.pairwise_cons.1 h1).1 b (by simp)
      rw [e1, e2, ltB_irrefl] at this; cases this
  simpa [pairsF] using h3
def bytesF (c : Int × List Pr) : Bs × Bool × Int := if c.1 ≠ 0 then ([], false, c.1) else match c.2 with
  | [] => ([], false, 0)
  | p :: _ => (p.value, true, 0)
def resB (r : Bs × Bool × Int) : AV := .tup [bys r.1, .bool r.2.1, errA r.2.2]
@[simp] theorem good_resB (r : Bs × Bool × Int) : (resB r).good = true := by simp [resB, AV.good, goodL]
theorem Bytes_ok8 (w : Int) (root key : Bs) (p : Tre) (hp : p.ok) (hk : key.length ≤ 140737489400000) (hn : (nodesF p).length ≤ 2^40) : EV C n_check_Bytes [.int .i64 w, bys root, bys key, p.av] [] = some (resB (bytesF (chkF w root (pointF key) p)), [], []) := by
  refine check_Bytes_of ?_
  simp -implicitDefEqProofs only [ZS, ZT, Nat.reduceAdd]
  rw [callD_ok (env := EV C) (by simp) (Point_ok key hk)]
  simp -implicitDefEqProofs only [ZS, ZT, Nat.reduceAdd]
  rw [callD_ok (env := EV C) (by simp) (Chk_ok w root (pointF key) p hp (fun _ => hn))]
  simp -implicitDefEqProofs only [resC, neqE0, lenV_prs, ZS, ZT, Nat.reduceAdd]
  unfold bytesF
  have eb : ∀ (n : Int) (H : List AObj) (E : List Nat), endB false false 0 (.tup [.nils, .bool false, errA n]) H E = some (resB ([], false, n), [], []) := fun n H E => endB_frz (frz_tup (frzL_cons rfl (frzL_cons rfl (frzL_cons (frz_good _ _ (good_err n)) rfl)))) (good_resB ([], false, n))
  by_cases hc : (chkF w root (pointF key) p).1 = 0
  · simp -implicitDefEqProofs only [hc, ne_eq, not_true_eq_false, lenV_prs, ZS, ZT, Nat.reduceAdd]
    cases hx : (chkF w root (pointF key) p).2 with
    | nil =>
      simp -implicitDefEqProofs only [List.length_nil, Int.natCast_zero, ZS, ZT, Nat.reduceAdd]
      exact eb 0 _ _
    | cons a l =>
      have h1 : ¬ (((a :: l).length : Nat) : Int) = 0 := by simp; omega
      have x0 : ∀ H, ixA 2 (prsA (a :: l)) (.int .i64 0) H = some (.ip [bys a.key, bys a.value]) := fun H => ixA_prs (i := 0) rfl
      rw [if_neg h1]
      simp -implicitDefEqProofs only [x0, ZS, ZT, Nat.reduceAdd]
      exact endB_good (good_resB (a.value, true, 0))
  · simp -implicitDefEqProofs only [hc, ne_eq, not_false_eq_true, ZS, ZT, Nat.reduceAdd]
    exact eb _ _ _
theorem neq_bool (c : TypeId → Bool) (b x y : Bool) : binA .neq .bool c b (.bool x) (.bool y) = some (.bool (!decide (x = y))) := rfl
theorem CheckBytes_ok (w : Int) (key : Bs) (p : Tre) (hp : p.ok) (hk : key.length ≤ 140737489400000) : EV C n_law08_CheckBytes [.int .i64 w, bys key, p.av] [] = some (.bool true, [], []) := by
  refine law08_CheckBytes_of ?_
  simp -implicitDefEqProofs only [ZS, ZT, Nat.reduceAdd]
  rw [callK_ok rfl up8_ok]
  simp -implicitDefEqProofs only [ZS, ZT, Nat.reduceAdd]
  rw [callK_ok (by simp) (small3_ok p hp)]
  simp -implicitDefEqProofs only [ZS, ZT, Nat.reduceAdd]
  rw [callK_ok (by simp) (Digest_ok w p hp)]
  cases hs : small3 p with
  | false => simp -implicitDefEqProofs only [resD, ZS, ZT, Nat.reduceAdd]; exact endB_good rfl
  | true =>
    have hpt := small3_parts hs
    have hn := nodes_parts p
    by_cases hd : (digF w p).1 = 0
    · have hr := chk_range w (digF w p).2 (pointF key) p
      simp -implicitDefEqProofs only [resD, neqE0, hd, ZS, ZT, Nat.reduceAdd]
      rw [callK_ok (by simp) (Bytes_ok8 w _ key p hp hk (by omega))]
      simp -implicitDefEqProofs only [resB, ZS, ZT, Nat.reduceAdd]
      rw [callD_ok (env := EV C) (by simp) (Point_ok key hk)]
      simp -implicitDefEqProofs only [ZS, ZT, Nat.reduceAdd]
      rw [callD_ok (env := EV C) (by simp) (Chk_ok w _ (pointF key) p hp (fun _ => by omega))]
      simp -implicitDefEqProofs only [resC, ZS, ZT, Nat.reduceAdd]
      have hb : (bytesF (chkF w (digF w p).2 (pointF key) p)).2.2 = (chkF w (digF w p).2 (pointF key) p).1 := by
        unfold bytesF
        split
        · rfl
        · rename_i h
          have h : (chkF w (digF w p).2 (pointF key) p).1 = 0 := Classical.byContradiction h
          split <;> simp [h]
      rw [hb]
      rw [callK_ok (by simp) (Code_ok _ hr.1 (by omega)), callK_ok (by simp) (Code_ok _ hr.1 (by omega))]
      simp -implicitDefEqProofs only [lenV_prs, neq_bool, ZS, ZT, Nat.reduceAdd]
      have hone : (chkF w (digF w p).2 (pointF key) p).2.length ≤ 1 ∧ ((chkF w (digF w p).2 (pointF key) p).1 ≠ 0 → (chkF w (digF w p).2 (pointF key) p).2 = []) := by
        rw [chk_own hp hd]
        split
        · rename_i hr'
          unfold behindF
          split
          · simp
          · exact ⟨point_one hr', by simp⟩
        · simp
      generalize chkF w (digF w p).2 (pointF key) p = c at hone
      obtain ⟨n, l⟩ := c
      simp only at hone
      unfold bytesF
      by_cases hc : n = 0
      · subst hc
        rcases l with _ | ⟨a, _ | ⟨b, m⟩⟩
        · simp -implicitDefEqProofs only [ne_eq, not_true_eq_false, List.length_nil, Int.natCast_zero, show ¬ ((0 : Int) = 1) from by decide, not_bool, ZS, ZT, Nat.reduceAdd]
          exact endB_good rfl
        · have x0 : ∀ H, ixA 2 (prsA [a]) (.int .i64 0) H = some (.ip [bys a.key, bys a.value]) := fun H => ixA_prs (i := 0) rfl
          simp -implicitDefEqProofs only [ne_eq, not_true_eq_false, List.length_singleton, show (((1 : Nat) : Int) = 1) from rfl, x0, not_bool, ZS, ZT, Nat.reduceAdd]
          exact endB_good rfl
        · exact absurd hone.1 (by simp)
      · have hl := hone.2 hc
        subst hl
        simp -implicitDefEqProofs only [hc, ne_eq, not_false_eq_true, List.length_nil, Int.natCast_zero, show ¬ ((0 : Int) = 1) from by decide, not_bool, ZS, ZT, Nat.reduceAdd]
        exact endB_good rfl
    · simp -implicitDefEqProofs only [resD, neqE0, hd, ZS, ZT, Nat.reduceAdd]
      exact endB_good rfl
/-! ### CheckLess -/
def within (less s : Spn) : Prop := less.o = false ∧ ltB less.a s.a = false ∧ (s.o = true ∨ ltB s.b less.b = false)
theorem in_less {less s : Spn} (h : within less s) {k : Bs} (hi : inF less k = true) : inF s k = true := by
  obtain ⟨h0, h1, h2⟩ := h
  simp only [inF, h0, Bool.false_or, Bool.and_eq_true, Bool.not_eq_true', Bool.or_eq_true] at hi ⊢
  refine ⟨leB_trans h1 hi.1, ?_⟩
  rcases h2 with h2 | h2
  · exact .inl h2
  · exact .inr (lt_le hi.2 h2)
theorem from_less {less s : Spn} (h : within less s) (low : Bs) (hl : Bool) : ltB (fromF less low hl) (fromF s low hl) = false := by
  obtain ⟨h0, h1, h2⟩ := h
  unfold fromF
  cases hl with
  | false => simpa using h1
  | true =>
    simp only [Bool.true_and]
    cases ha : ltB s.a (low ++ [0]) with
    | true =>
      cases hb : ltB less.a (low ++ [0]) with
      | true => simp [ltB_irrefl]
      | false => simpa using hb
    | false =>
      cases hb : ltB less.a (low ++ [0]) with
      | true => have := lt_le hb ha; rw [this] at h1; cases h1
      | false => simpa using h1
theorem empty_less {less s : Spn} (h : within less s) {low high : Bs} {hl hh : Bool} (he : emptyF s low high hl hh = true) : emptyF less low high hl hh = true := by
  have hf := from_less h low hl
  obtain ⟨h0, h1, h2⟩ := h
  simp only [emptyF, Bool.or_eq_true, Bool.and_eq_true, Bool.not_eq_true', h0] at he ⊢
  rcases he with he | he
  · left
    refine ⟨trivial, ?_⟩
    rcases h2 with h2 | h2
    · rw [h2] at he; exact absurd he.1 (by simp)
    · exact leB_trans (leB_trans h2 he.2) hf
  · right
    exact ⟨he.1, leB_trans he.2 hf⟩
theorem open_less {less s : Spn} (h : within less s) (t : Tre) : formedF t = true → ∀ (low high : Bs) (hl hh : Bool), openF s t low high hl hh = false → openF less t low high hl hh = false := by
  induction t using Tre.ind with
  | h t ih =>
    intro hf low high hl hh ho
    by_cases h3 : t.kind = 3
    · rw [open_cut _ h3] at ho ⊢
      rw [empty_less h (by simpa using ho)]; rfl
    · by_cases h0 : t.kind = 0
      · exact open_none _ h0 ..
      · obtain ⟨hkk, hka, hva, l, r, hk⟩ := formed_node hf h0 h3
        rw [open_node _ h0 h3 hk] at ho ⊢
        split at ho
        · cases ho
        · rename_i hn
          rw [if_neg (fun hx => hn ⟨hx.1, in_less h hx.2⟩)]
          simp only [Bool.or_eq_false_iff] at ho ⊢
          exact ⟨ih l (by rw [hk]; simp) (formed_kids hf l (by rw [hk]; simp)) _ _ _ _ ho.1, ih r (by rw [hk]; simp) (formed_kids hf r (by rw [hk]; simp)) _ _ _ _ ho.2⟩
theorem pairs_less {less s : Spn} (h : within less s) (l : List Tre) : (pairsF s l).filter (fun p => inF less p.key) = pairsF less l := by
  induction l with
  | nil => rfl
  | cons t l ih =>
    unfold pairsF at ih ⊢
    rw [List.filter_cons, List.filter_cons]
    by_cases h1 : inN less t = true
    · have h2 : inN s t = true := by
        simp only [inN, Bool.and_eq_true] at h1 ⊢
        exact ⟨h1.1, in_less h h1.2⟩
      have h3 : inF less (pairT t).key = true := by simp only [inN, Bool.and_eq_true] at h1; exact h1.2
      rw [if_pos h1, if_pos h2, List.map_cons, List.map_cons, List.filter_cons, if_pos h3, ih]
    · rw [if_neg h1]
      by_cases h2 : inN s t = true
      · have h3 : ¬ inF less (pairT t).key = true := fun h3 => h1 (by
          simp only [inN, Bool.and_eq_true] at h2 ⊢
          exact ⟨h2.1, h3⟩)
        rw [if_pos h2, List.map_cons, List.filter_cons, if_neg h3, ih]
      · rw [if_neg h2, ih]
theorem ld_pr (p : Pr) (H : List AObj) : loadA true 2 (.ip [bys p.key, bys p.value]) H = some p.av := Eq.trans rfl rfl
theorem lit_pr {β : Type} (p : Pr) (H : List AObj) (K : AV → List AObj → List Nat → Option β) : litK 2 1 (.agg [.nils, .nils]) [(0, p.av)] H K = K (.lst [p.av]) H [] := Eq.trans rfl rfl
theorem less_loop (less : Spn) (o0 o1 : AObj) (m l : List Pr) (hl : l.length ≤ 2^40) (hm : m.length ≤ 2^40) : ∀ (j i : Nat) (out : List Pr) (E : List Nat), i + j = l.length → out.length ≤ i →
    law08_CheckLess_J14 0 (.bool true) (prsA l) (.ptr 2 1 0 0) (prsA m) .nili (.slc 3 0 out.length out.length) (.int .i64 (i : Int)) [o0, o1, .row 3 [less.av], vro 2 (out.map Pr.av)] E = some (.bool (decide (m = out ++ (l.drop i).filter (fun p => inF less p.key))), [], [])
  | 0, i, out, E, hi, ho => by
    refine law08_CheckLess_J14_of ?_
    have e1 : ¬ ((i : Int) < (l.length : Int)) := by omega
    have hd : l.drop i = [] := List.drop_eq_nil_of_le (by omega)
    simp -implicitDefEqProofs only [lenV_prs, e1, hd, List.filter_nil, List.append_nil, eql_nil1, ZS, Nat.reduceAdd]
    have hfz : frz [o0, o1, .row 3 [less.av], vro 2 (out.map Pr.av)] (.slc 3 0 out.length out.length) = some (prsA out) := frz_vro (l := 3) (z := 2) rfl (by simp) (goodL_pr _)
    rw [callK_flat (bs := [prsA m, prsA out]) (frzL_cons (frz_good _ _ (good_prs m)) (frzL_cons hfz rfl)) (by simp) (Same_ok m out (by omega)) rfl]
    exact endB_good rfl
  | j + 1, i, out, E, hi, ho => by
    refine law08_CheckLess_J14_of ?_
    have hlt : i < l.length := by omega
    have e1 : ((i : Int) < (l.length : Int)) := by omega
    have e3 : IntKind.i64.wrap ((i : Int) + 1) = ((i + 1 : Nat) : Int) := w64 (by omega) (by omega)
    have hd : l.drop i = l[i] :: l.drop (i + 1) := List.drop_eq_getElem_cons hlt
    have l2 : loadA true 3 (.ptr 2 1 0 0) [o0, o1, .row 3 [less.av], vro 2 (out.map Pr.av)] = some less.av := Eq.trans rfl rfl
    simp -implicitDefEqProofs only [lenV_prs, e1, l2, ixA_prs (List.getElem?_eq_getElem hlt), ZS, Nat.reduceAdd]
    rw [callD_ok (env := EV C) (by simp) (In_ok less l[i].key), hd, List.filter_cons]
    cases hin : inF less l[i].key with
    | true =>
      simp -implicitDefEqProofs only [ixA_prs (List.getElem?_eq_getElem hlt), ld_pr, lit_pr, ZS, Nat.reduceAdd]
      rw [appK_vro (l := 3) (es := out.map Pr.av) (ys := [l[i].av]) rfl rfl (by simp) rfl (by decide) (by decide) (by decide) (by simp; omega), esc_good (by simp [goodL])]
      simp -implicitDefEqProofs only [add_int, e3, ZS, Nat.reduceAdd]
      have := less_loop less o0 o1 m l hl hm j (i + 1) (out ++ [l[i]]) ([] ++ ([] ++ []) ++ E) (by omega) (by simp; omega)
      simp only [List.length_append, List.length_singleton, List.map_append, List.map_cons, List.map_nil, List.append_assoc, List.singleton_append] at this
      exact this
    | false =>
      simp -implicitDefEqProofs only [add_int, e3, Bool.false_eq_true, ZS, Nat.reduceAdd]
      exact less_loop less o0 o1 m l hl hm j (i + 1) out E (by omega) (by omega)
theorem CheckLess_ok (w : Int) (s : Spn) (fr to : Bs) (p : Tre) (hp : p.ok) : EV C n_law08_CheckLess [.int .i64 w, s.av, bys fr, bys to, p.av] [] = some (.bool true, [], []) := by
  refine law08_CheckLess_of ?_
  simp -implicitDefEqProofs only [new_sp, ZS, ZT, Nat.reduceAdd]
  rw [callK_ok rfl up8_ok]
  simp -implicitDefEqProofs only [ZS, ZT, Nat.reduceAdd]
  rw [callK_ok (by simp) (small3_ok p hp)]
  simp -implicitDefEqProofs only [ZS, ZT, Nat.reduceAdd]
  rw [callK_ok (by simp) (Digest_ok w p hp)]
  cases hs : small3 p with
  | false => simp -implicitDefEqProofs only [resD, ZS, ZT, Nat.reduceAdd]; exact endB_good rfl
  | true =>
    have hpt := small3_parts hs
    have hn := nodes_parts p
    by_cases hd : (digF w p).1 = 0
    · obtain ⟨hw, gp, dp⟩ := gd_of hp hd
      have hr := chk_range w (digF w p).2 s p
      have hl := chk_len w (digF w p).2 s p
      simp -implicitDefEqProofs only [resD, neqE0, hd, ld_sp0, ZS, ZT, Nat.reduceAdd]
      rw [callK_ok (by simp) (Chk_ok w _ s p hp (fun _ => by omega))]
      have fl : ∀ (a b : Bs) (K : List AV → Option R3), (fillB (AV.cells (.agg [.nils, .nils, .bool false])) [(0, 1, bys a), (1, 1, bys b)]).bind K = K [bys a, bys b, .bool false] := fun a b K => by simp [fillB, AV.cells, AV.isBad, bys]
      have n1 : ∀ (H : List AObj) (K : AV → List AObj → List Nat → Option R3), newK (.agg [.nils, .nils, .bool false]) H K = K (.ptr H.length 1 0 0) (H ++ [.row 3 [.agg [.nils, .nils, .bool false]]]) [] := fun H K => new_agg (by simp) rfl H K
      have st : ∀ (o0 o1 : AObj) (K : List AObj → List Nat → Option R3), stoK 3 (.ptr 2 1 0 0) (.agg [bys fr, bys to, .bool false]) [o0, o1, .row 3 [.agg [.nils, .nils, .bool false]]] K = K [o0, o1, .row 3 [Spn.av ⟨fr, to, false⟩]] [] := fun o0 o1 K => by
        rw [sto_agg (l := 2) (z := 3) (cs := [.nils, .nils, .bool false]) (ds := [bys fr, bys to, .bool false]) rfl rfl rfl (by simp [AV.one, bys]), escs_good (by simp [goodL, AV.good])]
        rfl
      have l2 : ∀ (o0 o1 : AObj) (T : List AObj), loadA true 3 (.ptr 2 1 0 0) (o0 :: o1 :: .row 3 [Spn.av ⟨fr, to, false⟩] :: T) = some (Spn.av ⟨fr, to, false⟩) := fun o0 o1 T => Eq.trans rfl rfl
      -- what comes when the smaller span lies within
      have fin : within ⟨fr, to, false⟩ s → (chkF w (digF w p).2 s p).1 = 0 → ∀ E : List Nat,
          (callK (EV C) false n_check_Check [.int .i64 w, bys (digF w p).2, Spn.av ⟨fr, to, false⟩, p.av] [.row 3 [s.av], .row 5 [p.av], .row 3 [Spn.av ⟨fr, to, false⟩]] fun a31 H31 E31 =>
            (extA a31 0).bind fun a32 =>
            (extA a31 1).bind fun a33 =>
            law08_CheckLess_J14 0 (.bool true) (prsA (chkF w (digF w p).2 s p).2) (.ptr 2 1 0 0) a32 a33 (.slc (List.length H31) 0 0 0) (.int .i64 0) (H31 ++ [.vrow]) (E31 ++ E)) = some (.bool true, [], []) := fun hwi hc E => by
        have c1 := chk_own hp hd s
        have c2 := chk_own hp hd ⟨fr, to, false⟩
        have hl2 := chk_len w (digF w p).2 ⟨fr, to, false⟩ p
        have hris : risN (nodesF p) = true := by
          cases h : risN (nodesF p) with
          | true => rfl
          | false => rw [c1, h] at hc; simp at hc
        rw [hris, if_pos rfl] at c1 c2
        have ho : openF s p [] [] false false = false := by
          cases h : openF s p [] [] false false with
          | false => rfl
          | true => rw [c1] at hc; simp [behindF, h] at hc
        have ho2 := open_less hwi p gp.formed _ _ _ _ ho
        have e1 : chkF w (digF w p).2 s p = (0, pairsF s (nodesF p)) := by rw [c1]; simp [behindF, ho]
        have e2 : chkF w (digF w p).2 ⟨fr, to, false⟩ p = (0, pairsF ⟨fr, to, false⟩ (nodesF p)) := by rw [c2]; simp [behindF, ho2]
        rw [callK_ok (by simp) (Chk_ok w _ ⟨fr, to, false⟩ p hp (fun _ => by omega))]
        rw [e1] at hl ⊢
        rw [e2] at hl2 ⊢
        simp only at hl hl2
        simp -implicitDefEqProofs only [resC, ZS, ZT, Nat.reduceAdd]
        refine (less_loop ⟨fr, to, false⟩ _ _ (pairsF ⟨fr, to, false⟩ (nodesF p)) (pairsF s (nodesF p)) (by omega) (by omega) (pairsF s (nodesF p)).length 0 [] _ (by omega) (by simp)).trans ?_
        rw [List.drop_zero, List.nil_append, pairs_less hwi]
        simp
      simp -implicitDefEqProofs only [resC, fl, n1, st, l2, ld_sp0_a, ld_sp0_b, ld_sp0_o, geq_str, leq_str, neqE0, ZS, ZT, Nat.reduceAdd]
      cases ha : ltB fr s.a with
      | true =>
        simp -implicitDefEqProofs only [not_bool, ZS, ZT, Nat.reduceAdd]
        by_cases hc : (chkF w (digF w p).2 s p).1 = 0
        · simp only [hc, decide_true, Bool.not_true, splitK_f]; exact endB_good rfl
        · simp only [hc, decide_false, Bool.not_false, splitK_t]; exact endB_good rfl
      | false =>
        simp -implicitDefEqProofs only [ld_sp0_o, ld_sp0_b, leq_str, neqE0, ZS, ZT, Nat.reduceAdd]
        cases ho : s.o with
        | true =>
          simp -implicitDefEqProofs only [neqE0, ZS, ZT, Nat.reduceAdd]
          by_cases hc : (chkF w (digF w p).2 s p).1 = 0
          · simp -implicitDefEqProofs only [hc, not_bool, l2, ZS, ZT, Nat.reduceAdd]
            exact fin ⟨rfl, ha, .inl ho⟩ hc _
          · simp -implicitDefEqProofs only [hc, ZS, ZT, Nat.reduceAdd]
            exact endB_good rfl
        | false =>
          simp -implicitDefEqProofs only [ld_sp0_b, leq_str, neqE0, ZS, ZT, Nat.reduceAdd]
          by_cases hc : (chkF w (digF w p).2 s p).1 = 0
          · cases hb : ltB s.b to with
            | true =>
              simp -implicitDefEqProofs only [hc, hb, not_bool, l2, ZS, ZT, Nat.reduceAdd]
              exact endB_good rfl
            | false =>
              simp -implicitDefEqProofs only [hc, hb, not_bool, l2, ZS, ZT, Nat.reduceAdd]
              exact fin ⟨rfl, ha, .inr hb⟩ hc _
          · simp -implicitDefEqProofs only [hc, ZS, ZT, Nat.reduceAdd]
            exact endB_good rfl
    · simp -implicitDefEqProofs only [resD, neqE0, hd, ZS, ZT, Nat.reduceAdd]
      exact endB_good rfl
/-! ### what the arguments are -/
theorem ty_bool {B : Nat} {f : Nat} {cs : List AV} (h : tyC Tryd.prog B f 4 cs) : ∃ b, cs = [.bool b] := by
  cases f with
  | zero => simp [tyC] at h
  | succ f =>
    simp only [tyC, Tryd.underlying4] at h
    exact h
theorem agT24 : agT Tryd.prog 24 = true := by unfold agT; rw [Tryd.underlying24]
theorem ty_spn {B f : Nat} {cs : List AV} {a : AV} (e : a = mkE (agT Tryd.prog 24) cs) (h : tyC Tryd.prog B f 24 cs) : ∃ s : Spn, a = s.av := by
  obtain ⟨f', css, rfl, h2⟩ := ty_struct Tryd.underlying24 h
  obtain ⟨c1, _, rfl, ⟨k1, _⟩, h2⟩ := forall2_1 h2
  obtain ⟨c2, _, rfl, ⟨k2, _⟩, h2⟩ := forall2_1 h2
  obtain ⟨c3, _, rfl, ⟨k3, _⟩, h2⟩ := forall2_1 h2
  obtain rfl := forall2_0 h2
  obtain ⟨x, rfl, _⟩ := ty_bytesB k1
  obtain ⟨y, rfl, _⟩ := ty_bytesB k2
  obtain ⟨b, rfl⟩ := ty_bool k3
  exact ⟨⟨x, y, b⟩, by rw [e, agT24]; rfl⟩
theorem ty_bytes' {B f : Nat} {cs : List AV} {a : AV} (e : a = mkE (agT Tryd.prog 22) cs) (h : tyC Tryd.prog B f 22 cs) : ∃ l : Bs, a = bys l ∧ l.length ≤ B := by
  obtain ⟨l, rfl, hl⟩ := ty_bytesB h
  exact ⟨l, by rw [e, agT_f Tryd.underlying22 rfl]; rfl, hl⟩
theorem checkTakes_law {a b c d : AV} {f f1 f2 f3 : Nat} {l l1 l2 l3 : List AV} (e : a = mkE (agT Tryd.prog 3) l) (h : tyC Tryd.prog reachBytes f 3 l) (e1 : b = mkE (agT Tryd.prog 22) l1) (h1 : tyC Tryd.prog reachBytes f1 22 l1) (e2 : c = mkE (agT Tryd.prog 24) l2) (h2 : tyC Tryd.prog reachBytes f2 24 l2) (e3 : d = mkE (agT Tryd.prog 27) l3) (h3 : tyC Tryd.prog reachBytes f3 27 l3) :
    EV C n_law08_CheckTakes [a, b, c, d] [] = some (.bool true, [], []) := by
  obtain ⟨w, rfl⟩ := ty_i64' e h
  obtain ⟨r, rfl, _⟩ := ty_bytes' e1 h1
  obtain ⟨s, rfl⟩ := ty_spn e2 h2
  obtain ⟨p, rfl, hp⟩ := ty_tre' (by decide) e3 h3
  exact CheckTakes_ok w r s p hp
theorem checkOwn_law {a c d : AV} {f f2 f3 : Nat} {l l2 l3 : List AV} (e : a = mkE (agT Tryd.prog 3) l) (h : tyC Tryd.prog reachBytes f 3 l) (e2 : c = mkE (agT Tryd.prog 24) l2) (h2 : tyC Tryd.prog reachBytes f2 24 l2) (e3 : d = mkE (agT Tryd.prog 27) l3) (h3 : tyC Tryd.prog reachBytes f3 27 l3) :
    EV C n_law08_CheckOwn [a, c, d] [] = some (.bool true, [], []) := by
  obtain ⟨w, rfl⟩ := ty_i64' e h
  obtain ⟨s, rfl⟩ := ty_spn e2 h2
  obtain ⟨p, rfl, hp⟩ := ty_tre' (by decide) e3 h3
  exact CheckOwn_ok w s p hp
theorem checkBytes_law {a b d : AV} {f f1 f3 : Nat} {l l1 l3 : List AV} (e : a = mkE (agT Tryd.prog 3) l) (h : tyC Tryd.prog reachBytes f 3 l) (e1 : b = mkE (agT Tryd.prog 22) l1) (h1 : tyC Tryd.prog reachBytes f1 22 l1) (e3 : d = mkE (agT Tryd.prog 27) l3) (h3 : tyC Tryd.prog reachBytes f3 27 l3) :
    EV C n_law08_CheckBytes [a, b, d] [] = some (.bool true, [], []) := by
  obtain ⟨w, rfl⟩ := ty_i64' e h
  obtain ⟨r, rfl, hr⟩ := ty_bytes' e1 h1
  obtain ⟨p, rfl, hp⟩ := ty_tre' (by decide) e3 h3
  exact CheckBytes_ok w r p hp (by have : reachBytes = 140737488351232 := rfl; omega)
theorem checkLess_law {a b c d g : AV} {f f1 f2 f3 f4 : Nat} {l l1 l2 l3 l4 : List AV} (e : a = mkE (agT Tryd.prog 3) l) (h : tyC Tryd.prog reachBytes f 3 l) (e1 : b = mkE (agT Tryd.prog 24) l1) (h1 : tyC Tryd.prog reachBytes f1 24 l1) (e2 : c = mkE (agT Tryd.prog 22) l2) (h2 : tyC Tryd.prog reachBytes f2 22 l2)
    (e3 : d = mkE (agT Tryd.prog 22) l3) (h3 : tyC Tryd.prog reachBytes f3 22 l3) (e4 : g = mkE (agT Tryd.prog 27) l4) (h4 : tyC Tryd.prog reachBytes f4 27 l4) :
    EV C n_law08_CheckLess [a, b, c, d, g] [] = some (.bool true, [], []) := by
  obtain ⟨w, rfl⟩ := ty_i64' e h
  obtain ⟨s, rfl⟩ := ty_spn e1 h1
  obtain ⟨x, rfl, _⟩ := ty_bytes' e2 h2
  obtain ⟨y, rfl, _⟩ := ty_bytes' e3 h3
  obtain ⟨p, rfl, hp⟩ := ty_tre' (by decide) e4 h4
  exact CheckLess_ok w s x y p hp
end Go.Pm
