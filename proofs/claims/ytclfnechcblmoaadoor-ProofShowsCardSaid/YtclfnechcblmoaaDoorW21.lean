/- Package check. -/
import Derived.Test.YtclfnechcblmoaaDoorW20
namespace Go.Pm
open Go.Proofs
set_option linter.unusedVariables false
set_option linter.unusedSimpArgs false
theorem condB_t {β : Type} {b : Bool} {x : Option β} (h : b = true) : condB b x = x := by subst h; rfl
/-! ### open -/
mutual
def openF (s : Spn) : Tre → Bs → Bs → Bool → Bool → Bool
  | .mk k a b c ks, low, high, hl, hh =>
    if k = 3 then !emptyF s low high hl hh
    else if k = 0 then false
    else if k = 2 ∧ inF s a = true then true
    else match openL s ks with
      | f :: g :: _ => f low a hl true || g a high true hh
      | _ => false
def openL (s : Spn) : List Tre → List (Bs → Bs → Bool → Bool → Bool)
  | [] => []
  | t :: ts => openF s t :: openL s ts
end
theorem open_cut (s : Spn) {t : Tre} (h : t.kind = 3) (low high : Bs) (hl hh : Bool) : openF s t low high hl hh = !emptyF s low high hl hh := by
  cases t with | mk k a b c ks => simp only [Tre.kind] at h; rw [openF, if_pos h]
theorem open_none (s : Spn) {t : Tre} (h : t.kind = 0) (low high : Bs) (hl hh : Bool) : openF s t low high hl hh = false := by
  cases t with | mk k a b c ks => simp only [Tre.kind] at h; rw [openF, if_neg (by omega), if_pos h]
theorem open_node (s : Spn) {t l r : Tre} (h0 : t.kind ≠ 0) (h3 : t.kind ≠ 3) (hk : t.kids = [l, r]) (low high : Bs) (hl hh : Bool) :
    openF s t low high hl hh = if t.kind = 2 ∧ inF s t.key = true then true else openF s l low t.key hl true || openF s r t.key high true hh := by
  cases t with
  | mk k a b c ks =>
    simp only [Tre.kind] at h0 h3; simp only [Tre.kids] at hk; subst hk
    rw [openF, if_neg h3, if_neg h0]
    simp only [openL, Tre.kind, Tre.key]
    rfl
theorem open_ok (s : Spn) (t : Tre) : t.ok → formedF t = true → ∀ (low high : Bs) (hl hh : Bool), low.length ≤ 1000 → EV C n_check_open [s.av, t.av, bys low, bys high, .bool hl, .bool hh] [] = some (.bool (openF s t low high hl hh), [], []) := by
  induction t using Tre.ind with
  | h t ih =>
    intro ht hf low high hl hh hlow
    obtain ⟨ha, hb, hc, hk, hks⟩ := (ok_eq t).1 ht
    refine check_open_of ?_
    simp -implicitDefEqProofs only [new_sp, ld_sp0, ZS, ZT, Nat.reduceAdd]
    by_cases h3 : t.kind = 3
    · rw [if_pos h3, EmptyK s low high hl hh (by omega)]
      simp -implicitDefEqProofs only [not_bool, ZS, Nat.reduceAdd]
      rw [open_cut s h3]
      exact endB_good rfl
    · rw [if_neg h3]
      by_cases h0 : t.kind = 0
      · rw [if_pos h0, open_none s h0]; exact endB_good rfl
      · rw [if_neg h0]
        obtain ⟨hkk, hka, hva, l, r, hks2⟩ := formed_node hf h0 h3
        have hl' : l ∈ t.kids := by rw [hks2]; simp
        have hr' : r ∈ t.kids := by rw [hks2]; simp
        have il := ih l hl' (hks l hl') (formed_kids hf l hl') low t.key hl true hlow
        have ir := ih r hr' (hks r hr') (formed_kids hf r hr') t.key high true hh (by omega)
        have x0 : ∀ H, ixA 5 (kidsA t.kids) (.int .i64 0) H = some (.ip l.av.cells) := fun H => ixA_kids (i := 0) (by rw [hks2]; rfl)
        have x1 : ∀ H, ixA 5 (kidsA t.kids) (.int .i64 1) H = some (.ip r.av.cells) := fun H => ixA_kids (i := 1) (by rw [hks2]; rfl)
        have dl : ∀ H, callD (EV C) n_check_open [s.av, l.av, bys low, bys t.key, .bool hl, .bool true] H = some (.bool (openF s l low t.key hl true)) := fun H => callD_ok (by simp [goodL, AV.good]) il
        have dr : ∀ H, callD (EV C) n_check_open [s.av, r.av, bys t.key, bys high, .bool true, .bool hh] H = some (.bool (openF s r t.key high true hh)) := fun H => callD_ok (by simp [goodL, AV.good]) ir
        rw [open_node s h0 h3 hks2]
        by_cases h2 : t.kind = 2
        · rw [if_pos h2, InK]
          cases hi : inF s t.key with
          | true =>
            rw [if_pos ⟨h2, rfl⟩]
            simp only [condK_t]
            exact endB_good rfl
          | false =>
            rw [if_neg (by simp)]
            simp -implicitDefEqProofs only [ld_sp0, x0, x1, dl, dr, ZS, ZT, Nat.reduceAdd]
            cases openF s l low t.key hl true with
            | true => simp only [splitK_t, Bool.true_or]; exact endB_good rfl
            | false =>
              simp -implicitDefEqProofs only [ld_sp0, x0, x1, dl, dr, Bool.false_or, ZS, ZT, Nat.reduceAdd]
              exact endB_good rfl
        · rw [if_neg h2, if_neg (by simp [h2])]
          simp -implicitDefEqProofs only [ld_sp0, x0, x1, dl, dr, ZS, ZT, Nat.reduceAdd]
          cases openF s l low t.key hl true with
          | true => simp only [splitK_t, Bool.true_or]; exact endB_good rfl
          | false =>
            simp -implicitDefEqProofs only [ld_sp0, x0, x1, dl, dr, Bool.false_or, ZS, ZT, Nat.reduceAdd]
            exact endB_good rfl
/-! ### pairs -/
structure Pr where
  (key value : Bs)
  deriving DecidableEq
def Pr.av (p : Pr) : AV := .agg [bys p.key, bys p.value]
@[simp] theorem good_pr (p : Pr) : p.av.good = true := by simp [Pr.av, AV.good, goodL]
def prsA (l : List Pr) : AV := .lst (l.map Pr.av)
@[simp] theorem goodL_pr (l : List Pr) : goodL (l.map Pr.av) = true := goodL_map good_pr l
@[simp] theorem good_prs (l : List Pr) : (prsA l).good = true := goodL_pr l
theorem lz_pr (l : List Pr) : lz 2 (l.map Pr.av) = true := by cases l <;> rfl
theorem lenV_prs (l : List Pr) (H : List AObj) : lenV (prsA l) H = some (.int .i64 (l.length : Int)) := by unfold prsA; simp
def inN (s : Spn) (t : Tre) : Bool := decide (t.kind = 1) && inF s t.key
def pairT (t : Tre) : Pr := ⟨t.key, t.value⟩
def pairsF (s : Spn) (l : List Tre) : List Pr := (l.filter (inN s)).map pairT
def risK : List Bs → Bool
  | a :: b :: l => ltB a b && risK (b :: l)
  | _ => true
/-- the keys rise -/
def risN (l : List Tre) : Bool := risK (l.map Tre.key)
theorem dr_tr1 (t : Tre) : List.drop 1 t.av.cells = [bys t.key, bys t.value, bys t.digest, kidsA t.kids] := by rw [cells_tr]; rfl
theorem new_zt {β : Type} (H : List AObj) (K : AV → List AObj → List Nat → Option β) : newK (.agg [(.int .i64 0), .nils, .nils, .nils, .nils]) H K = K (.ptr H.length 1 0 0) (H ++ [.row 5 [.agg [(.int .i64 0), .nils, .nils, .nils, .nils]]]) [] := new_agg (by simp) rfl H K
theorem sto_t {β : Type} {H : List AObj} {b : Nat} {cs : List AV} {t : Tre} {K : List AObj → List Nat → Option β} (h : H[b]? = some (.row 5 [.agg cs])) (hc : cs.length = 5) : stoK 5 (.ptr b 1 0 0) t.av H K = K (H.set b (.row 5 [t.av])) [] := by
  rw [av_eq, sto_agg h hc rfl rfl, escs_good (by simp [goodL, AV.good])]
theorem ldb_k {H : List AObj} {b : Nat} {t : Tre} (h : H[b]? = some (.row 5 [t.av])) : loadA false 1 (.ptr b 1 0 0) H = some (.int .i64 t.kind) := by rw [av_eq] at h; exact ld_fld h rfl
theorem ldb_a {H : List AObj} {b : Nat} {t : Tre} (h : H[b]? = some (.row 5 [t.av])) : loadA false 1 (.ptr b 1 0 1) H = some (bys t.key) := by rw [av_eq] at h; exact ld_fld h rfl
theorem ldb_b {H : List AObj} {b : Nat} {t : Tre} (h : H[b]? = some (.row 5 [t.av])) : loadA false 1 (.ptr b 1 0 2) H = some (bys t.value) := by rw [av_eq] at h; exact ld_fld h rfl
theorem fill_pr {β : Type} (a b : Bs) (K : List AV → Option β) : (fillB (AV.cells (.agg [.nils, .nils])) [(0, 1, bys a), (1, 1, bys b)]).bind K = K [bys a, bys b] := by simp [fillB, AV.cells, AV.isBad, bys]
theorem litD_pr (a b : Bs) (H : List AObj) : litD 2 1 (.agg [.nils, .nils]) [(0, .agg [bys a, bys b])] H = some (.lst [(Pr.mk a b).av]) := by
  have : frzL H [AV.agg [bys a, bys b]] = some [AV.agg [bys a, bys b]] := frzL_good _ _ (by simp [goodL, AV.good])
  simp [litD, this, frz, frzL, setS, AV.cells, AV.one, bys, killsL, kills, Pr.av]
theorem chk_j18 (s : Spn) (p : Tre) (l : List Tre) (hl : l.length ≤ 2^40) (ho : ∀ t ∈ l, t.key.length ≤ 80 ∧ t.value.length ≤ 1024) : ∀ (m i : Nat) (out : List Pr) (E : List Nat), i + m = l.length → out.length ≤ i →
    check_Check_J18 0 (.ptr 0 1 0 0) (.slc 2 0 out.length out.length) (kidsA l) (.int .i64 (l.length : Int)) (.int .i64 (i : Int)) [.row 3 [s.av], .row 5 [p.av], vro 2 (out.map Pr.av)] E = some (.tup [prsA (out ++ pairsF s (l.drop i)), .nili], [], [])
  | 0, i, out, E, hi, hout => by
    refine check_Check_J18_of ?_
    have e1 : ¬ ((i : Int) < (l.length : Int)) := by omega
    have e2 : l.drop i = [] := List.drop_eq_nil_of_le (by omega)
    simp -implicitDefEqProofs only [e1, e2, ZS, Nat.reduceAdd]
    refine endB_frz (u := .tup [prsA (out ++ pairsF s []), .nili]) (frz_tup (frzL_cons ((frz_vro (l := 2) (z := 2) rfl (by simp) (goodL_pr _)).trans ?_) rfl)) (by simp [AV.good, goodL])
    simp [prsA, pairsF]
  | m + 1, i, out, E, hi, hout => by
    refine check_Check_J18_of ?_
    have hil : i < l.length := by omega
    have e1 : ((i : Int) < (l.length : Int)) := by omega
    have e2 : l.drop i = l[i] :: l.drop (i + 1) := List.drop_eq_getElem_cons hil
    have e3 : IntKind.i64.wrap ((i : Int) + 1) = ((i + 1 : Nat) : Int) := w64 (by omega) (by omega)
    have hok := ho _ (List.getElem_mem hil)
    simp -implicitDefEqProofs only [e1, ixA_kids (List.getElem?_eq_getElem hil), new_zt, ZS, ZT, Nat.reduceAdd]
    rw [sto_t (b := 3) rfl rfl]
    have Lk := ldb_k (H := [.row 3 [s.av], .row 5 [p.av], vro 2 (out.map Pr.av), .row 5 [l[i].av]]) (b := 3) (t := l[i]) rfl
    have La := ldb_a (H := [.row 3 [s.av], .row 5 [p.av], vro 2 (out.map Pr.av), .row 5 [l[i].av]]) (b := 3) (t := l[i]) rfl
    have Lb := ldb_b (H := [.row 3 [s.av], .row 5 [p.av], vro 2 (out.map Pr.av), .row 5 [l[i].av]]) (b := 3) (t := l[i]) rfl
    simp -implicitDefEqProofs only [Lk, La, Lb, ld_sp0, InK, add_int, e3, ZS, ZT, Nat.reduceAdd]
    rw [e2]
    have skip : inN s l[i] = false → ∀ E, check_Check_J18 0 (.ptr 0 1 0 0) (.slc 2 0 out.length out.length) (kidsA l) (.int .i64 (l.length : Int)) (.int .i64 ((i + 1 : Nat) : Int)) [.row 3 [s.av], .row 5 [p.av], vro 2 (out.map Pr.av)] E = some (.tup [prsA (out ++ pairsF s (l[i] :: l.drop (i + 1))), .nili], [], []) := fun h E => by
      rw [chk_j18 s p l hl ho m (i + 1) out E (by omega) (by omega)]
      simp only [pairsF, List.filter_cons, h, Bool.false_eq_true, if_false]
    split
    · rename_i h1
      cases hin : inF s l[i].key with
      | true =>
        simp -implicitDefEqProofs only [Lk, La, Lb, callD_ok (env := EV C) (args := [bys l[i].key]) (by simp) (Clone_byte_ok l[i].key (by omega)), callD_ok (env := EV C) (args := [bys l[i].value]) (by simp) (Clone_byte_ok l[i].value (by omega)), ZS, ZT, Nat.reduceAdd]
        rw [fill_pr, litD_pr, Option.bind_some, appK_vro (l := 2) (es := out.map Pr.av) (ys := [(pairT l[i]).av]) rfl rfl (by simp) rfl (by decide) (by decide) (by decide) (by simp; omega), esc_good (by simp [goodL])]
        simp -implicitDefEqProofs only [add_int, e3, ZS, ZT, Nat.reduceAdd]
        rw [condB_t (by simp [AV.bel, bel_good _ _ (good_kids l)])]
        have := chk_j18 s p l hl ho m (i + 1) (out ++ [pairT l[i]]) E (by omega) (by simp; omega)
        have hn : inN s l[i] = true := by simp [inN, h1, hin]
        simp only [pairsF, List.filter_cons, hn, if_true, List.map_cons]
        simp only [List.length_append, List.length_singleton, List.map_append, List.map_cons, List.map_nil, List.append_assoc, List.singleton_append] at this
        exact this
      | false =>
        simp -implicitDefEqProofs only [add_int, e3, ZS, ZT, Nat.reduceAdd]
        rw [condB_t (by simp [AV.bel, bel_good _ _ (good_kids l)])]
        exact skip (by simp [inN, hin]) E
    · rename_i h1
      rw [condB_t (by simp [AV.bel, bel_good _ _ (good_kids l)])]
      exact skip (by simp [inN, h1]) E
def resC (c : Int × List Pr) : AV := .tup [prsA c.2, errA c.1]
@[simp] theorem good_resC (c : Int × List Pr) : (resC c).good = true := by simp [resC]
theorem endC (n : Int) (H : List AObj) (E : List Nat) : endB false false 0 (.tup [.nils, errA n]) H E = some (resC (n, []), [], []) :=
  endB_frz (frz_tup (frzL_cons rfl (frzL_cons (frz_good _ _ (good_err n)) rfl))) (good_resC (n, []))
theorem endC' (n : Int) (hn : n ≠ 0) (H : List AObj) (E : List Nat) : endB false false 0 (.tup [.nils, .ifc t_api_Code (.int .i64 n)]) H E = some (resC (n, []), [], []) := by
  have := endC n H E
  rw [errA_ne hn] at this
  exact this
/-- what is told of nodes that stand in a proof -/
def behindF (s : Spn) (p : Tre) (l : List Tre) : Int × List Pr := if openF s p [] [] false false = true then (8, []) else (0, pairsF s l)
theorem risN_drop {l : List Tre} {i : Nat} (h : i + 1 < l.length) : risN (l.drop i) = (ltB (l[i]'(by omega)).key l[i + 1].key && risN (l.drop (i + 1))) := by
  have e1 : l.drop i = l[i]'(by omega) :: l.drop (i + 1) := List.drop_eq_getElem_cons (by omega)
  have e2 : l.drop (i + 1) = l[i + 1] :: l.drop (i + 2) := List.drop_eq_getElem_cons h
  rw [e1, e2]; rfl
theorem chk_j10 (s : Spn) (p : Tre) (hp : p.ok) (hf : formedF p = true) (l : List Tre) (hl : l.length ≤ 2^40) (ho : ∀ t ∈ l, t.key.length ≤ 80 ∧ t.value.length ≤ 1024) : ∀ (m i : Nat) (E : List Nat), l.length ≤ i + 1 + m → 
    check_Check_J10 0 (.ptr 0 1 0 0) (.ptr 1 1 0 0) (kidsA l) (.int .i64 ((i + 1 : Nat) : Int)) [.row 3 [s.av], .row 5 [p.av]] E = some (resC (if risN (l.drop i) = true then behindF s p l else (7, [])), [], []) := by
  have fin : ∀ (E : List Nat), ((loadA true 3 (.ptr 0 1 0 0) [.row 3 [s.av], .row 5 [p.av]]).bind fun a13 =>
    (loadA true 5 (.ptr 1 1 0 0) [.row 3 [s.av], .row 5 [p.av]]).bind fun a14 =>
    callK (EV C) false n_check_open [a13, a14, .nils, .nils, (.bool false), (.bool false)] [.row 3 [s.av], .row 5 [p.av]] fun a15 H15 E15 =>
    condK a15
      (endB false false 0 (.tup [.nils, (.ifc t_api_Code (.int .i64 8))]) H15 (E15 ++ E))
      (check_Check_J18 0 (.ptr 0 1 0 0) (.slc (List.length H15) 0 0 0) (kidsA l) (.int .i64 (l.length : Int)) (.int .i64 0) (H15 ++ [.vrow]) (E15 ++ E))) = some (resC (behindF s p l), [], []) := fun E => by
    simp -implicitDefEqProofs only [ld_sp0, ZS, ZT, Nat.reduceAdd]
    rw [callK_nil (bs := [s.av, p.av, bys [], bys [], .bool false, .bool false]) (by simp [killsL, kills, kills_good _ (good_sp s), kills_good _ (good_tr p)]) (frzL_cons (frz_good _ _ (good_sp s)) (frzL_cons (frz_good _ _ (good_tr p)) (frzL_cons rfl (frzL_cons rfl rfl)))) (by simp [goodL, AV.good]) (open_ok s p hp hf [] [] false false (by simp))]
    unfold behindF
    cases openF s p [] [] false false with
    | true => simp only [condK_t, if_true]; exact endC' 8 (by decide) _ _
    | false =>
      simp -implicitDefEqProofs only [Bool.false_eq_true, ZS, ZT, Nat.reduceAdd]
      have := chk_j18 s p l hl ho l.length 0 [] ([] ++ E) (by omega) (by simp)
      simpa [resC, errA, vro] using this
  intro m
  induction m with
  | zero =>
    intro i E hi
    refine check_Check_J10_of ?_
    have e1 : ¬ (((i + 1 : Nat) : Int) < (l.length : Int)) := by omega
    have e2 : risN (l.drop i) = true := by
      cases hx : l.drop i with
      | nil => rfl
      | cons a x =>
        have : (l.drop i).length ≤ 1 := by simp; omega
        rw [hx] at this
        cases x with
        | nil => rfl
        | cons b y => simp at this
    rw [e2, if_pos rfl]
    simp -implicitDefEqProofs only [e1, lenV_kids, lss_int, decide_false, Option.bind_some, condK_f]
    exact fin E
  | succ m ih =>
    intro i E hi
    by_cases hlt : i + 1 < l.length
    · refine check_Check_J10_of ?_
      have e1 : (((i + 1 : Nat) : Int) < (l.length : Int)) := by omega
      have e3 : IntKind.i64.wrap (((i + 1 : Nat) : Int) + 1) = ((i + 1 + 1 : Nat) : Int) := w64 (by omega) (by omega)
      have e4 : IntKind.i64.wrap (((i + 1 : Nat) : Int) - 1) = ((i : Nat) : Int) := w64 (by omega) (by omega)
      have hi0 : i < l.length := by omega
      simp -implicitDefEqProofs only [e1, e3, e4, sub_int, add_int, ixA_kids (List.getElem?_eq_getElem hi0), ixA_kids (List.getElem?_eq_getElem hlt), dr_tr1, CompareD, cmp_ge, ZS, ZT, Nat.reduceAdd]
      rw [risN_drop hlt]
      cases hc : ltB l[i].key l[i + 1].key with
      | true =>
        simp -implicitDefEqProofs only [Bool.true_and, add_int, e3, ZS, ZT, Nat.reduceAdd]
        exact ih (i + 1) E (by omega)
      | false =>
        simp -implicitDefEqProofs only [Bool.false_and, Bool.false_eq_true, ZS, ZT, Nat.reduceAdd]
        exact endC' 7 (by decide) _ _
    · refine check_Check_J10_of ?_
      have e1 : ¬ (((i + 1 : Nat) : Int) < (l.length : Int)) := by omega
      have e2 : risN (l.drop i) = true := by
        cases hx : l.drop i with
        | nil => rfl
        | cons a x =>
          have : (l.drop i).length ≤ 1 := by simp; omega
          rw [hx] at this
          cases x with
          | nil => rfl
          | cons b y => simp at this
      rw [e2, if_pos rfl]
      simp -implicitDefEqProofs only [e1, lenV_kids, lss_int, decide_false, Option.bind_some, condK_f]
      exact fin E
theorem nodes_small (t : Tre) : formedF t = true → ∀ k ∈ nodesF t, k.key.length ≤ 80 ∧ k.value.length ≤ 1024 ∧ (k.kind = 1 ∨ k.kind = 2) ∧ ∃ l r, k.kids = [l, r] := by
  induction t using Tre.ind with
  | h t ih =>
    intro hf k hk
    rcases formed_two hf with hn | ⟨l, r, hn⟩
    · rw [nodes_nil hn] at hk; simp at hk
    · rw [nodes_two hn] at hk
      rcases List.mem_append.1 hk with hk | hk
      · exact ih l (by rw [hn]; simp) (formed_kids hf l (by rw [hn]; simp)) k hk
      · rcases List.mem_cons.1 hk with rfl | hk
        · have h0 : k.kind ≠ 0 := fun h0 => by
            rw [formedF_eq, Bool.and_eq_true] at hf
            have h1 := hf.1
            simp only [formed1, h0, if_true, decide_eq_true_eq, hn, List.length_cons] at h1
            omega
          have h3 : k.kind ≠ 3 := fun h3 => by
            rw [formedF_eq, Bool.and_eq_true] at hf
            have h1 := hf.1
            simp only [formed1] at h1
            rw [if_neg h0, if_neg (by omega), if_neg (by omega), if_pos h3, decide_eq_true_eq, hn] at h1
            simp at h1
          obtain ⟨a1, a2, a3, a4⟩ := formed_node hf h0 h3
          exact ⟨a2, a3, a1, a4⟩
        · exact ih r (by rw [hn]; simp) (formed_kids hf r (by rw [hn]; simp)) k hk
def chkF (w : Int) (root : Bs) (s : Spn) (p : Tre) : Int × List Pr :=
  if wOk w = false ∨ (root.length : Int) ≠ w then (1, [])
  else if (digF w p).1 ≠ 0 then ((digF w p).1, [])
  else if (digF w p).2 ≠ root then (6, [])
  else if risN (nodesF p) = true then behindF s p (nodesF p) else (7, [])
theorem Chk_ok (w : Int) (root : Bs) (s : Spn) (p : Tre) (hp : p.ok) (hn : (digF w p).1 = 0 → (nodesF p).length ≤ 2^40) : EV C n_check_Check [.int .i64 w, bys root, s.av, p.av] [] = some (resC (chkF w root s p), [], []) := by
  refine check_Check_of ?_
  simp -implicitDefEqProofs only [new_sp, ld_sp0, ZS, ZT, Nat.reduceAdd]
  unfold chkF
  split
  · have hw : wOk w = false := by simp only [wOk, decide_eq_false_iff_not]; omega
    rw [if_pos (.inl hw)]; exact endC' 1 (by decide) _ _
  · split
    · have hw : wOk w = false := by simp only [wOk, decide_eq_false_iff_not]; omega
      rw [if_pos (.inl hw)]; exact endC' 1 (by decide) _ _
    · have hw : wOk w = true := by simp only [wOk, decide_eq_true_eq]; omega
      by_cases hr : (root.length : Int) = w
      · rw [if_neg (by simp [hw, hr])]
        simp -implicitDefEqProofs only [hr, ZS, ZT, Nat.reduceAdd]
        rw [callK_ok (by simp) (Digest_ok w p hp)]
        by_cases hd : (digF w p).1 = 0
        · obtain ⟨_, gp, dp⟩ := gd_of hp hd
          simp -implicitDefEqProofs only [resD, neqE0, hd, ne_eq, not_true_eq_false, ZS, ZT, Nat.reduceAdd]
          rw [callK_ok (by simp) (Equal_ok _ _)]
          by_cases he : (digF w p).2 = root
          · simp -implicitDefEqProofs only [he, not_true_eq_false, ZS, ZT, Nat.reduceAdd]
            rw [callK_ok (by simp) (List_ok p hp (hn hd)), if_pos gp.check]
            have := chk_j10 s p hp gp.formed (nodesF p) (hn hd) (fun t h => ⟨(nodes_small p gp.formed t h).1, (nodes_small p gp.formed t h).2.1⟩) (nodesF p).length 0
            rw [List.drop_zero] at this
            exact this _ (by omega)
          · simp -implicitDefEqProofs only [he, not_false_eq_true, ZS, ZT, Nat.reduceAdd]
            exact endC' 6 (by decide) _ _
        · simp -implicitDefEqProofs only [resD, neqE0, hd, ne_eq, not_false_eq_true, ZS, ZT, Nat.reduceAdd]
          exact endC _ _ _
      · rw [if_pos (.inr hr)]
        simp -implicitDefEqProofs only [hr, ZS, ZT, Nat.reduceAdd]
        exact endC' 1 (by decide) _ _
end Go.Pm
