/- A part of the proof: what the functions of the program answer, as plain lists and numbers. -/
import Derived.Test.YtclfnechcblmoaaDoorP9
import Derived.Test.YtclfnechcblmoaaDoorP28
import Derived.Test.YtclfnechcblmoaaDoorP29
import Derived.Test.YtclfnechcblmoaaDoorP33
namespace Go.Pm
open Go.Proofs
set_option linter.unusedVariables false
set_option linter.unusedSimpArgs false
theorem rIn_ok (s : Spn) (k : Bs) : EV C n_ref06_In [s.av, bys k] [] = some (.bool (inF s k), [], []) := by
  refine ref06_In_of ?_
  simp -implicitDefEqProofs only [new_sp, ld_sp0_a, ld_sp0_b, ld_sp0_o, leq_str, lss_str, ZS, Nat.reduceAdd]
  unfold inF
  cases ltB k s.a with
  | true => simp only [Bool.not_true, splitK_f, Bool.false_and]; exact endB_good rfl
  | false =>
    simp only [Bool.not_false, splitK_t, Bool.true_and]
    cases s.o with
    | true => simp only [splitK_t, Bool.true_or]; exact endB_good rfl
    | false =>
      simp -implicitDefEqProofs only [splitK_f, Bool.false_or, lss_str, ZS, Nat.reduceAdd]
      exact endB_good rfl
theorem rInD (s : Spn) (k : Bs) (H : List AObj) : callD (EV C) n_ref06_In [s.av, bys k] H = some (.bool (inF s k)) := callD_ok (by simp) (rIn_ok s k)
theorem ixA_prs {l : List Pr} {k : IntKind} {i : Nat} {p : Pr} {H : List AObj} (h : l[i]? = some p) : ixA 2 (prsA l) (.int k i) H = some (.ip [bys p.key, bys p.value]) := by
  unfold prsA
  exact ixA_lst (e := p.av) (by omega) (by simp [h]) rfl
theorem same_loop (a b : List Pr) (hl : a.length = b.length) (hb : a.length ≤ 2^50) : ∀ (m i : Nat) (E : List Nat), i + m = a.length → ref06_Same_J4 0 (prsA a) (prsA b) (.int .i64 (i : Int)) [] E = some (.bool (decide (a.drop i = b.drop i)), [], [])
  | 0, i, E, hi => by
    refine ref06_Same_J4_of ?_
    have e1 : ¬ ((i : Int) < (a.length : Int)) := by omega
    have e2 : decide (a.drop i = b.drop i) = true := by rw [List.drop_eq_nil_of_le (by omega), List.drop_eq_nil_of_le (by omega)]; rfl
    simp -implicitDefEqProofs only [lenV_prs, e1, e2, ZS, Nat.reduceAdd]
    exact endB_good rfl
  | m + 1, i, E, hi => by
    refine ref06_Same_J4_of ?_
    have h1 : i < a.length := by omega
    have h2 : i < b.length := by omega
    have e1 : ((i : Int) < (a.length : Int)) := by omega
    have e3 : IntKind.i64.wrap ((i : Int) + 1) = ((i + 1 : Nat) : Int) := w64 (by omega) (by omega)
    have d1 : a.drop i = a[i] :: a.drop (i + 1) := List.drop_eq_getElem_cons h1
    have d2 : b.drop i = b[i] :: b.drop (i + 1) := List.drop_eq_getElem_cons h2
    simp -implicitDefEqProofs only [lenV_prs, e1, ixA_prs (List.getElem?_eq_getElem h1), ixA_prs (List.getElem?_eq_getElem h2), ZS, Nat.reduceAdd]
    rw [d1, d2]
    by_cases hk : a[i].key = b[i].key
    · by_cases hv : a[i].value = b[i].value
      · have he : a[i] = b[i] := by cases ha : a[i]; cases hb' : b[i]; simp_all
        simp -implicitDefEqProofs only [hk, hv, lenV_prs, ixA_prs (List.getElem?_eq_getElem h1), ixA_prs (List.getElem?_eq_getElem h2), add_int, e3, ZS, Nat.reduceAdd]
        have hd : decide (a[i] :: a.drop (i + 1) = b[i] :: b.drop (i + 1)) = decide (a.drop (i + 1) = b.drop (i + 1)) := by rw [he]; exact dec_iff (by simp only [List.cons.injEq, true_and])
        rw [hd]
        exact same_loop a b hl hb m (i + 1) _ (by omega)
      · have he : ¬ (a[i] :: a.drop (i + 1) = b[i] :: b.drop (i + 1)) := fun h => hv (by rw [List.cons.injEq] at h; rw [h.1])
        simp -implicitDefEqProofs only [hk, hv, he, ixA_prs (List.getElem?_eq_getElem h1), ixA_prs (List.getElem?_eq_getElem h2), ZS, Nat.reduceAdd]
        exact endB_good rfl
    · have he : ¬ (a[i] :: a.drop (i + 1) = b[i] :: b.drop (i + 1)) := fun h => hk (by rw [List.cons.injEq] at h; rw [h.1])
      simp -implicitDefEqProofs only [hk, he, ZS, Nat.reduceAdd]
      exact endB_good rfl
theorem Same_ok (a b : List Pr) (hb : a.length ≤ 2^50) : EV C n_ref06_Same [prsA a, prsA b] [] = some (.bool (decide (a = b)), [], []) := by
  refine ref06_Same_of ?_
  by_cases hl : a.length = b.length
  · have : ((a.length : Int) = (b.length : Int)) := by omega
    simp -implicitDefEqProofs only [lenV_prs, this, ZS, Nat.reduceAdd]
    exact same_loop a b hl hb a.length 0 _ (by omega)
  · have h1 : ¬ ((a.length : Int) = (b.length : Int)) := by omega
    have h2 : ¬ a = b := fun e => hl (by rw [e])
    simp -implicitDefEqProofs only [lenV_prs, h1, h2, ZS, Nat.reduceAdd]
    exact endB_good rfl
end Go.Pm
namespace Go.Pm
open Go.Proofs
set_option linter.unusedVariables false
set_option linter.unusedSimpArgs false
theorem of3 : ofF 1 [3] = [8] := by kernel_rfl
theorem chk_up1 : chkF 1 [8] ⟨[], [], true⟩ Tre.nil = (0, []) := by
  have hd : digF 1 Tre.nil = (0, [8]) := by
    have : toldF 1 Tre.nil = some [8] := by rw [told_none 1 Tre.nil rfl, of3]
    have hc : checkF Tre.nil = 0 := by kernel_rfl
    simp [digF, wOk, hc, this]
  have hn : nodesF Tre.nil = [] := nodes_nil rfl
  unfold chkF
  rw [hd, hn]
  simp [wOk, risN, risK, behindF, open_none _ (show Tre.nil.kind = 0 from rfl), pairsF]
theorem chk_up2 : chkF 1 [255] ⟨[], [], true⟩ (Tre.cut [255]) = (8, []) := by
  have hd : digF 1 (Tre.cut [255]) = (0, [255]) := by
    have : toldF 1 (Tre.cut [255]) = some [255] := by rw [told_cut 1 (Tre.cut [255]) rfl]; rfl
    have hc : checkF (Tre.cut [255]) = 0 := by kernel_rfl
    simp [digF, wOk, hc, this]
  have hn : nodesF (Tre.cut [255]) = [] := nodes_nil rfl
  unfold chkF
  rw [hd, hn]
  simp [wOk, risN, risK, behindF, open_cut _ (show (Tre.cut [255]).kind = 3 from rfl), emptyF]
theorem up8_ok : EV C n_law08_up [] [] = some (.bool true, [], []) := by
  refine law08_up_of ?_
  have fs : ∀ (K : List AV → Option R3), (fillB (AV.cells (.agg [.nils, .nils, (.bool false)])) [(2, 1, (.bool true))]).bind K = K [.nils, .nils, .bool true] := fun K => rfl
  have zs : ∀ H, frz H (.agg [.nils, .nils, .bool true]) = some (Spn.av ⟨[], [], true⟩) := fun H => rfl
  simp only [fs, fill_nil]
  rw [lit0 8 8 rfl]
  rw [callK_nil (bs := [.int .i64 1, bys [8], Spn.av ⟨[], [], true⟩, Tre.nil.av]) (by simp [killsL, kills, kills_good _ (good_bys [8])]) (frzL_cons rfl (frzL_cons (frz_good _ _ (good_bys [8])) (frzL_cons (zs _) (frzL_cons (frz_nil0 _) rfl)))) (by simp [goodL, AV.good]) (Chk_ok 1 [8] ⟨[], [], true⟩ .nil nil_ok (fun _ => by rw [nodes_nil rfl]; simp))]
  simp -implicitDefEqProofs only [chk_up1, resC, ZS, Nat.reduceAdd]
  rw [lit0 255 255 rfl, lit0 255 255 rfl]
  rw [fill_cut [255], callK_nil (bs := [.int .i64 1, bys [255], Spn.av ⟨[], [], true⟩, (Tre.cut [255]).av]) (by simp [killsL, kills, kills_good _ (good_bys [255])]) (frzL_cons rfl (frzL_cons (frz_good _ _ (good_bys [255])) (frzL_cons (zs _) (frzL_cons (frz_cut0 [255] _) rfl)))) (by simp [goodL, AV.good]) (Chk_ok 1 [255] ⟨[], [], true⟩ (.cut [255]) (tcut_ok (by simp)) (fun _ => by rw [nodes_nil rfl]; simp))]
  simp -implicitDefEqProofs only [chk_up2, resC, lenV_prs, List.length_nil, Int.natCast_zero, eqlE0, eqlE _ _ _ (show (8 : Int) ≠ 0 by decide), ZS, Nat.reduceAdd]
  exact endB_good rfl
theorem ty_bool {B : Nat} {f : Nat} {cs : List AV} (h : tyC Tryd.prog B f 4 cs) : ∃ b, cs = [.bool b] := by
  cases f with
  | zero => simp [tyC] at h
  | succ f =>
    simp only [tyC, Tryd.underlying4] at h
    exact h
theorem agT24 : agT Tryd.prog 24 = true := by unfold agT; rw [Tryd.underlying24]
theorem ty_spn {B f : Nat} {cs : List AV} {a : AV} (e : a = mkE (agT Tryd.prog 24) cs) (h : tyC Tryd.prog B f 24 cs) : ∃ s : Spn, a = s.av := by
  obtain ⟨f', css, rfl, h2⟩ := ty_struct Tryd.underlying24 h
  obtain ⟨c1, _, rfl, ⟨k1, _⟩, h2⟩ := forall2_1 h2
  obtain ⟨c2, _, rfl, ⟨k2, _⟩, h2⟩ := forall2_1 h2
  obtain ⟨c3, _, rfl, ⟨k3, _⟩, h2⟩ := forall2_1 h2
  obtain rfl := forall2_0 h2
  obtain ⟨x, rfl, _⟩ := ty_bytesB k1
  obtain ⟨y, rfl, _⟩ := ty_bytesB k2
  obtain ⟨b, rfl⟩ := ty_bool k3
  exact ⟨⟨x, y, b⟩, by rw [e, agT24]; rfl⟩
end Go.Pm
namespace Go.Pm
open Go.Proofs
set_option linter.unusedVariables false
set_option linter.unusedSimpArgs false
theorem formed_leaf {t : Tre} (hf : formedF t = true) (h : t.kind = 0 ∨ t.kind = 3) : t.kids = [] := by
  rw [formedF_eq, Bool.and_eq_true] at hf
  have h1 := hf.1
  rcases h with h0 | h3
  · simp only [formed1, h0, if_true, decide_eq_true_eq] at h1
    exact List.length_eq_zero_iff.1 (by omega)
  · simp only [formed1] at h1
    rw [if_neg (by omega), if_neg (by omega), if_neg (by omega), if_pos h3, decide_eq_true_eq] at h1
    exact List.length_eq_zero_iff.1 (by omega)
def Srt (l : List Tre) : Prop := l.Pairwise fun a b => ltB a.key b.key = true
theorem srt_two {a b : List Tre} {t : Tre} (h : Srt (a ++ t :: b)) : Srt a ∧ Srt b ∧ (∀ k ∈ a, ltB k.key t.key = true) ∧ ∀ k ∈ b, ltB t.key k.key = true := by
  obtain ⟨h1, h2, h3⟩ := List.pairwise_append.1 h
  obtain ⟨h4, h5⟩ := List.pairwise_cons.1 h2
  exact ⟨h1, h5, fun k hk => h3 k hk t (by simp), h4⟩
end Go.Pm
