/- The document's check. -/
import Derived.Test.YtclfnechcblmoaaDoorW21
import Derived.Test.YtclfnechcblmoaaDoorT8
namespace Go.Pm
open Go.Proofs
set_option linter.unusedVariables false
set_option linter.unusedSimpArgs false
theorem leq_bs (d : TypeDesc) (c : TypeId → Bool) (b : Bool) (x y : Bs) : binA .leq d c b (.str ⟨x.toArray⟩) (.str ⟨y.toArray⟩) = some (.bool (!ltB y x)) := leq_str d c b x y
theorem rIn_ok (s : Spn) (k : Bs) : EV C n_ref06_In [s.av, bys k] [] = some (.bool (inF s k), [], []) := by
  refine ref06_In_of ?_
  simp -implicitDefEqProofs only [new_sp, ld_sp0_a, ld_sp0_b, ld_sp0_o, leq_str, lss_str, ZS, Nat.reduceAdd]
  unfold inF
  cases ltB k s.a with
  | true => simp only [Bool.not_true, splitK_f, Bool.false_and]; exact endB_good rfl
  | false =>
    simp only [Bool.not_false, splitK_t, Bool.true_and]
    cases s.o with
    | true => simp only [splitK_t, Bool.true_or]; exact endB_good rfl
    | false =>
      simp -implicitDefEqProofs only [splitK_f, Bool.false_or, lss_str, ZS, Nat.reduceAdd]
      exact endB_good rfl
theorem rInD (s : Spn) (k : Bs) (H : List AObj) : callD (EV C) n_ref06_In [s.av, bys k] H = some (.bool (inF s k)) := callD_ok (by simp) (rIn_ok s k)
theorem add_str (d : TypeDesc) (c : TypeId → Bool) (b : Bool) (x : Bs) (h : x.length ≤ 2^50) : binA .add d c b (.str ⟨x.toArray⟩) (.str ⟨#[0]⟩) = some (.str ⟨(x ++ [0]).toArray⟩) := by
  have h1 : (⟨x.toArray⟩ : ByteArray).size = x.length := by simp [ByteArray.size]
  have h2 : (⟨#[0]⟩ : ByteArray).size = 1 := rfl
  have h3 : (⟨x.toArray⟩ : ByteArray) ++ (⟨#[0]⟩ : ByteArray) = ⟨(x ++ [0]).toArray⟩ := by
    apply ByteArray.ext
    simp
  show (if (⟨x.toArray⟩ : ByteArray).size + (⟨#[0]⟩ : ByteArray).size ≤ 9223372036854775807 then some (AV.str ((⟨x.toArray⟩ : ByteArray) ++ (⟨#[0]⟩ : ByteArray))) else none) = _
  rw [h1, h2, if_pos (by omega), h3]
set_option maxHeartbeats 4000000 in
theorem rEmpty_ok (s : Spn) (low high : Bs) (hl hh : Bool) (h : low.length ≤ 2^45) : EV C n_ref06_Empty [s.av, bys low, bys high, .bool hl, .bool hh] [] = some (.bool (emptyF s low high hl hh), [], []) := by
  have hx := lt_next s.a low
  have key : ∀ b1 b2 b3 b4 b5 : Bool, ltB low s.a = b1 → ltB s.a s.b = b2 → ltB (low ++ [0]) s.b = b3 → ltB s.a high = b4 → ltB (low ++ [0]) high = b5 → EV C n_ref06_Empty [s.av, bys low, bys high, .bool hl, .bool hh] [] = some (.bool (emptyF s low high hl hh), [], []) := fun b1 b2 b3 b4 b5 h1 h2 h3 h4 h5 => by
    rw [h1] at hx
    refine ref06_Empty_of ?_
    cases ho : s.o <;> cases hl <;> cases hh <;> cases b1 <;> cases b2 <;> cases b3 <;> cases b4 <;> cases b5 <;>
      simp -implicitDefEqProofs only [new_sp, ld_sp0_a, ld_sp0_b, ld_sp0_o, geq_str, add_str _ _ _ low (show low.length ≤ 2^50 by omega), ho, hx, h1, h2, h3, h4, h5, not_bool, emptyF, fromF, Bool.true_and, Bool.and_true, Bool.false_and, Bool.and_false, Bool.or_false, Bool.or_true, Bool.false_or, Bool.true_or, Bool.false_eq_true, ZS, Nat.reduceAdd] <;> exact endB_good rfl
  exact key _ _ _ _ _ rfl rfl rfl rfl rfl
/-! ### Same -/
theorem dr_pr (p : Pr) : p.av.cells = [bys p.key, bys p.value] := rfl
theorem ixA_prs {l : List Pr} {k : IntKind} {i : Nat} {p : Pr} {H : List AObj} (h : l[i]? = some p) : ixA 2 (prsA l) (.int k i) H = some (.ip [bys p.key, bys p.value]) := by
  unfold prsA
  exact ixA_lst (e := p.av) (by omega) (by simp [h]) rfl
theorem same_loop (a b : List Pr) (hl : a.length = b.length) (hb : a.length ≤ 2^50) : ∀ (m i : Nat) (E : List Nat), i + m = a.length → ref06_Same_J4 0 (prsA a) (prsA b) (.int .i64 (i : Int)) [] E = some (.bool (decide (a.drop i = b.drop i)), [], [])
  | 0, i, E, hi => by
    refine ref06_Same_J4_of ?_
    have e1 : ¬ ((i : Int) < (a.length : Int)) := by omega
    have e2 : decide (a.drop i = b.drop i) = true := by rw [List.drop_eq_nil_of_le (by omega), List.drop_eq_nil_of_le (by omega)]; rfl
    simp -implicitDefEqProofs only [lenV_prs, e1, e2, ZS, Nat.reduceAdd]
    exact endB_good rfl
  | m + 1, i, E, hi => by
    refine ref06_Same_J4_of ?_
    have h1 : i < a.length := by omega
    have h2 : i < b.length := by omega
    have e1 : ((i : Int) < (a.length : Int)) := by omega
    have e3 : IntKind.i64.wrap ((i : Int) + 1) = ((i + 1 : Nat) : Int) := w64 (by omega) (by omega)
    have d1 : a.drop i = a[i] :: a.drop (i + 1) := List.drop_eq_getElem_cons h1
    have d2 : b.drop i = b[i] :: b.drop (i + 1) := List.drop_eq_getElem_cons h2
    simp -implicitDefEqProofs only [lenV_prs, e1, ixA_prs (List.getElem?_eq_getElem h1), ixA_prs (List.getElem?_eq_getElem h2), ZS, Nat.reduceAdd]
    rw [d1, d2]
    by_cases hk : a[i].key = b[i].key
    · by_cases hv : a[i].value = b[i].value
      · have he : a[i] = b[i] := by cases ha : a[i]; cases hb' : b[i]; simp_all
        simp -implicitDefEqProofs only [hk, hv, lenV_prs, ixA_prs (List.getElem?_eq_getElem h1), ixA_prs (List.getElem?_eq_getElem h2), add_int, e3, ZS, Nat.reduceAdd]
        have hd : decide (a[i] :: a.drop (i + 1) = b[i] :: b.drop (i + 1)) = decide (a.drop (i + 1) = b.drop (i + 1)) := by rw [he]; exact dec_iff (by simp only [List.cons.injEq, true_and])
        rw [hd]
        exact same_loop a b hl hb m (i + 1) _ (by omega)
      · have he : ¬ (a[i] :: a.drop (i + 1) = b[i] :: b.drop (i + 1)) := fun h => hv (by rw [List.cons.injEq] at h; rw [h.1])
        simp -implicitDefEqProofs only [hk, hv, he, ixA_prs (List.getElem?_eq_getElem h1), ixA_prs (List.getElem?_eq_getElem h2), ZS, Nat.reduceAdd]
        exact endB_good rfl
    · have he : ¬ (a[i] :: a.drop (i + 1) = b[i] :: b.drop (i + 1)) := fun h => hk (by rw [List.cons.injEq] at h; rw [h.1])
      simp -implicitDefEqProofs only [hk, he, ZS, Nat.reduceAdd]
      exact endB_good rfl
theorem Same_ok (a b : List Pr) (hb : a.length ≤ 2^50) : EV C n_ref06_Same [prsA a, prsA b] [] = some (.bool (decide (a = b)), [], []) := by
  refine ref06_Same_of ?_
  by_cases hl : a.length = b.length
  · have : ((a.length : Int) = (b.length : Int)) := by omega
    simp -implicitDefEqProofs only [lenV_prs, this, ZS, Nat.reduceAdd]
    exact same_loop a b hl hb a.length 0 _ (by omega)
  · have h1 : ¬ ((a.length : Int) = (b.length : Int)) := by omega
    have h2 : ¬ a = b := fun e => hl (by rw [e])
    simp -implicitDefEqProofs only [lenV_prs, h1, h2, ZS, Nat.reduceAdd]
    exact endB_good rfl
/-! ### Items -/
structure Itm where
  (cut dark : Bool)
  (key value : Bs)
def Itm.av (x : Itm) : AV := .agg [.bool x.cut, .bool x.dark, bys x.key, bys x.value]
@[simp] theorem good_it (x : Itm) : x.av.good = true := by simp [Itm.av, AV.good, goodL]
def itsA (l : List Itm) : AV := .lst (l.map Itm.av)
@[simp] theorem goodL_it (l : List Itm) : goodL (l.map Itm.av) = true := goodL_map good_it l
@[simp] theorem good_its (l : List Itm) : (itsA l).good = true := goodL_it l
theorem lz_it (l : List Itm) : lz 4 (l.map Itm.av) = true := by cases l <;> rfl
theorem lenV_its (l : List Itm) (H : List AObj) : lenV (itsA l) H = some (.int .i64 (l.length : Int)) := by unfold itsA; simp
theorem ixA_its {l : List Itm} {k : IntKind} {i : Nat} {x : Itm} {H : List AObj} (h : l[i]? = some x) : ixA 4 (itsA l) (.int k i) H = some (.ip [.bool x.cut, .bool x.dark, bys x.key, bys x.value]) := by
  unfold itsA
  exact ixA_lst (e := x.av) (by omega) (by simp [h]) rfl
theorem ld_it (x : Itm) (H : List AObj) : loadA true 4 (.ip [.bool x.cut, .bool x.dark, bys x.key, bys x.value]) H = some x.av := Eq.trans rfl rfl
def cutI : Itm := ⟨true, false, [], []⟩
def nodeI (t : Tre) : Itm := ⟨false, decide (t.kind = 2), t.key, t.value⟩
mutual
def itemsF : Tre → List Itm
  | .mk k a b c ks => if k = 0 then [] else if k = 3 then [cutI] else match itemsL ks with
    | l :: r :: _ => l ++ nodeI (.mk k a b c ks) :: r
    | _ => []
def itemsL : List Tre → List (List Itm)
  | [] => []
  | t :: ts => itemsF t :: itemsL ts
end
theorem items_none {t : Tre} (h : t.kind = 0) : itemsF t = [] := by
  cases t with | mk k a b c ks => simp only [Tre.kind] at h; rw [itemsF, if_pos h]
theorem items_cut {t : Tre} (h : t.kind = 3) : itemsF t = [cutI] := by
  cases t with | mk k a b c ks => simp only [Tre.kind] at h; rw [itemsF, if_neg (by omega), if_pos h]
theorem items_node {t l r : Tre} (h0 : t.kind ≠ 0) (h3 : t.kind ≠ 3) (hk : t.kids = [l, r]) : itemsF t = itemsF l ++ nodeI t :: itemsF r := by
  cases t with
  | mk k a b c ks =>
    simp only [Tre.kind] at h0 h3; simp only [Tre.kids] at hk; subst hk
    rw [itemsF, if_neg h0, if_neg h3]; rfl
theorem app_it {β : Type} {H : List AObj} {l n : Nat} {es ys : List Itm} {y : AV} {K : AV → List AObj → List Nat → Option β} (hy : elemsA y H = some (ys.map Itm.av)) (h : H[l]? = some (.row 4 (es.map Itm.av))) (hn : n = es.length) (h5 : n + ys.length ≤ 2^40) :
    appK 4 56 (.slc l 0 n n) y H K = K (.slc l 0 (n + ys.length) (n + ys.length)) (H.set l (.row 4 ((es ++ ys).map Itm.av))) [] := by
  rw [appK_row hy h (by simpa using hn) (lz_it _) (by decide) (by decide) (by decide) (by simp; omega), esc_good (by simp)]
  simp
theorem Items_ok (t : Tre) : formedF t = true → (itemsF t).length ≤ 2^40 → EV C n_ref08_Items [t.av] [] = some (itsA (itemsF t), [], []) := by
  induction t using Tre.ind with
  | h t ih =>
    intro hf hn
    refine ref08_Items_of ?_
    simp -implicitDefEqProofs only [ZS, ZT, Nat.reduceAdd]
    by_cases h0 : t.kind = 0
    · rw [if_pos h0, items_none h0]; exact endB_frz rfl rfl
    · rw [if_neg h0]
      by_cases h3 : t.kind = 3
      · rw [if_pos h3, items_cut h3]
        have f1 : ∀ (K : List AV → Option R3), (fillB (AV.cells (.agg [(.bool false), (.bool false), .nils, .nils])) [(0, 1, (.bool true))]).bind K = K [.bool true, .bool false, .nils, .nils] := fun K => rfl
        rw [f1]
        have f2 : ∀ (H : List AObj) (K : AV → List AObj → List Nat → Option R3), litK 4 1 (.agg [(.bool false), (.bool false), .nils, .nils]) [(0, (.agg [.bool true, .bool false, .nils, .nils]))] H K = K (itsA [cutI]) H [] := fun H K => Eq.trans rfl rfl
        rw [f2]
        exact endB_good (by simp)
      · rw [if_neg h3]
        obtain ⟨hkk, hka, hva, l, r, hks2⟩ := formed_node hf h0 h3
        have hl : l ∈ t.kids := by rw [hks2]; simp
        have hr : r ∈ t.kids := by rw [hks2]; simp
        have it := items_node h0 h3 hks2
        rw [it, List.length_append, List.length_cons] at hn
        have il := ih l hl (formed_kids hf l hl) (by omega)
        have ir := ih r hr (formed_kids hf r hr) (by omega)
        have x0 : ∀ H, ixA 5 (kidsA t.kids) (.int .i64 0) H = some (.ip l.av.cells) := fun H => ixA_kids (i := 0) (by rw [hks2]; rfl)
        have x1 : ∀ H, ixA 5 (kidsA t.kids) (.int .i64 1) H = some (.ip r.av.cells) := fun H => ixA_kids (i := 1) (by rw [hks2]; rfl)
        have r0 : ∀ (H : List AObj) (K : AV → List AObj → List Nat → Option R3), rawK 4 0 (.agg [(.bool false), (.bool false), .nils, .nils]) [] H K = K (.slc H.length 0 0 0) (H ++ [.row 4 (([] : List Itm).map Itm.av)]) [] := fun H K => Eq.trans rfl rfl
        have f1 : ∀ (d : Bool) (a b : Bs) (K : List AV → Option R3), (fillB (AV.cells (.agg [(.bool false), (.bool false), .nils, .nils])) [(1, 1, (.bool d)), (2, 1, bys a), (3, 1, bys b)]).bind K = K [.bool false, .bool d, bys a, bys b] := fun d a b K => by simp [fillB, AV.cells, AV.isBad, bys]
        have f2 : ∀ (d : Bool) (a b : Bs) (H : List AObj) (K : AV → List AObj → List Nat → Option R3), litK 4 1 (.agg [(.bool false), (.bool false), .nils, .nils]) [(0, (.agg [.bool false, .bool d, bys a, bys b]))] H K = K (itsA [⟨false, d, a, b⟩]) H [] := fun d a b H K => Eq.trans rfl rfl
        rw [r0]
        simp -implicitDefEqProofs only [x0, x1, ZS, ZT, Nat.reduceAdd]
        rw [callK_ok (by simp) il]
        rw [app_it (l := 1) (n := 0) (es := []) (ys := itemsF l) rfl rfl rfl (by omega)]
        simp -implicitDefEqProofs only [List.nil_append, ZS, ZT, Nat.reduceAdd]
        rw [f1, f2]
        rw [app_it (l := 1) (es := itemsF l) (ys := [nodeI t]) rfl rfl rfl (by simp; omega)]
        simp -implicitDefEqProofs only [x0, x1, ZS, ZT, Nat.reduceAdd]
        rw [callK_ok (by simp) ir]
        rw [app_it (l := 1) (es := itemsF l ++ [nodeI t]) (ys := itemsF r) rfl rfl (by simp) (by simp; omega)]
        rw [it]
        refine (endB_frz (frz_row (z := 4) (l := 1) rfl (by simp; omega) (goodL_it _)) (good_its _)).trans ?_
        simp [itsA]
/-! ### what is told -/
def nextF : List Itm → Option Bs
  | [] => none
  | x :: l => if x.cut = true then nextF l else some x.key
def hiK (l : List Itm) : Bs := (nextF l).getD []
def tellI (s : Spn) : List Itm → Bs → Bool → Option (List Pr)
  | [], _, _ => some []
  | x :: l, low, has =>
    if x.cut = true then (if emptyF s low (hiK l) has (nextF l).isSome = true then tellI s l low has else none)
    else if inF s x.key = true ∧ x.dark = true then none
    else if inF s x.key = true then (tellI s l x.key true).map (⟨x.key, x.value⟩ :: ·)
    else tellI s l x.key true
def lastF (t : Tre) (low : Bs) : Bs := ((nodesF t).getLast?.map Tre.key).getD low
theorem empty_hh (s : Spn) (low a b : Bs) (hl : Bool) : emptyF s low a hl false = emptyF s low b hl false := rfl
theorem map_some {α β : Type} (f : α → β) (x : α) : (some x).map f = some (f x) := rfl
theorem omap_map {α : Type} (o : Option (List α)) (a b : List α) : (o.map (b ++ ·)).map (a ++ ·) = o.map ((a ++ b) ++ ·) := by cases o <;> simp
theorem tell_tree (s : Spn) (t : Tre) : formedF t = true → ∀ (rest : List Itm) (low : Bs) (has : Bool), ∃ low' has',
    tellI s (itemsF t ++ rest) low has = if openF s t low (hiK rest) has (nextF rest).isSome = true then none else (tellI s rest low' has').map (pairsF s (nodesF t) ++ ·) := by
  induction t using Tre.ind with
  | h t ih =>
    intro hf rest low has
    by_cases h0 : t.kind = 0
    · refine ⟨low, has, ?_⟩
      have hk : t.kids = [] := by
        rcases formed_two hf with h | ⟨l, r, h⟩
        · exact h
        · exfalso
          rw [formedF_eq, Bool.and_eq_true] at hf
          have h1 := hf.1
          simp only [formed1, h0, if_true, decide_eq_true_eq, h, List.length_cons] at h1
          omega
      rw [items_none h0, open_none s h0, nodes_nil hk, List.nil_append]
      simp [pairsF]
    · by_cases h3 : t.kind = 3
      · have hk : t.kids = [] := by
          rw [formedF_eq, Bool.and_eq_true] at hf
          have h1 := hf.1
          simp only [formed1] at h1
          rw [if_neg h0, if_neg (by omega), if_neg (by omega), if_pos h3, decide_eq_true_eq] at h1
          exact List.length_eq_zero_iff.1 (by omega)
        refine ⟨low, has, ?_⟩
        rw [items_cut h3, open_cut s h3, nodes_nil hk, List.singleton_append, tellI]
        simp only [cutI, if_true]
        cases emptyF s low (hiK rest) has (nextF rest).isSome <;> simp [pairsF]
      · obtain ⟨hkk, hka, hva, l, r, hk⟩ := formed_node hf h0 h3
        have fl := formed_kids hf l (by rw [hk]; simp)
        have fr := formed_kids hf r (by rw [hk]; simp)
        obtain ⟨lo1, ha1, e1⟩ := ih l (by rw [hk]; simp) fl (nodeI t :: (itemsF r ++ rest)) low has
        obtain ⟨lo2, ha2, e2⟩ := ih r (by rw [hk]; simp) fr rest t.key true
        refine ⟨lo2, ha2, ?_⟩
        have hn : nextF (nodeI t :: (itemsF r ++ rest)) = some t.key := by simp [nextF, nodeI]
        have hh : hiK (nodeI t :: (itemsF r ++ rest)) = t.key := by simp [hiK, hn]
        rw [items_node h0 h3 hk, List.append_assoc, List.cons_append, e1, hh, hn, open_node s h0 h3 hk]
        rw [nodes_two hk]
        have cc : (nodeI t).cut = false := rfl
        have hp : pairsF s (nodesF l ++ t :: nodesF r) = pairsF s (nodesF l) ++ ((if inN s t = true then [pairT t] else []) ++ pairsF s (nodesF r)) := by
          unfold pairsF
          rw [List.filter_append, List.filter_cons, List.map_append]
          split <;> simp
        by_cases hx : t.kind = 2 ∧ inF s t.key = true
        · rw [if_pos hx, if_pos rfl]
          have : tellI s (nodeI t :: (itemsF r ++ rest)) lo1 ha1 = none := by
            rw [tellI]; simp [nodeI, hx.1, hx.2]
          rw [this]; simp
        · rw [if_neg hx]
          cases ho : openF s l low t.key has true with
          | true => simp [ho]
          | false =>
            have ht : tellI s (nodeI t :: (itemsF r ++ rest)) lo1 ha1 = (tellI s (itemsF r ++ rest) t.key true).map ((if inN s t = true then [pairT t] else []) ++ ·) := by
              rw [tellI]
              rw [if_neg (by simp [cc])]
              have hd : ¬ (inF s (nodeI t).key = true ∧ (nodeI t).dark = true) := fun h => hx ⟨by simpa [nodeI] using h.2, h.1⟩
              rw [if_neg hd]
              by_cases hi : inF s t.key = true
              · have h1 : t.kind = 1 := hkk.elim id fun h => absurd ⟨h, hi⟩ hx
                have : inN s t = true := by simp [inN, h1, hi]
                rw [if_pos (show inF s (nodeI t).key = true from hi), if_pos this]
                rfl
              · have : inN s t = false := by simp [inN, hi]
                rw [if_neg (show ¬ inF s (nodeI t).key = true from hi), this]
                show tellI s (itemsF r ++ rest) t.key true = _
                cases tellI s (itemsF r ++ rest) t.key true <;> simp
            rw [ht, e2]
            have e3 : openF s l low t.key has (some t.key).isSome = false := ho
            rw [if_neg (by rw [e3]; simp), hp]
            simp only [Bool.false_or]
            cases openF s r t.key (hiK rest) true (nextF rest).isSome with
            | true => simp
            | false =>
              simp only [Bool.false_eq_true, if_false]
              rw [omap_map, omap_map, List.append_assoc]
theorem tell_top (s : Spn) (t : Tre) (hf : formedF t = true) : tellI s (itemsF t) [] false = if openF s t [] [] false false = true then none else some (pairsF s (nodesF t)) := by
  obtain ⟨a, b, h⟩ := tell_tree s t hf [] [] false
  rw [List.append_nil] at h
  rw [h]
  simp [tellI, hiK, nextF]
theorem keys_items (t : Tre) : formedF t = true → ((itemsF t).filter fun x => !x.cut).map Itm.key = (nodesF t).map Tre.key := by
  induction t using Tre.ind with
  | h t ih =>
    intro hf
    by_cases h0 : t.kind = 0
    · have hk : t.kids = [] := by
        rcases formed_two hf with h | ⟨l, r, h⟩
        · exact h
        · exfalso
          rw [formedF_eq, Bool.and_eq_true] at hf
          have h1 := hf.1
          simp only [formed1, h0, if_true, decide_eq_true_eq, h, List.length_cons] at h1
          omega
      rw [items_none h0, nodes_nil hk]; rfl
    · by_cases h3 : t.kind = 3
      · have hk : t.kids = [] := by
          rw [formedF_eq, Bool.and_eq_true] at hf
          have h1 := hf.1
          simp only [formed1] at h1
          rw [if_neg h0, if_neg (by omega), if_neg (by omega), if_pos h3, decide_eq_true_eq] at h1
          exact List.length_eq_zero_iff.1 (by omega)
        rw [items_cut h3, nodes_nil hk]; rfl
      · obtain ⟨hkk, hka, hva, l, r, hk⟩ := formed_node hf h0 h3
        rw [items_node h0 h3 hk, nodes_two hk, List.filter_append, List.map_append, List.filter_cons, ih l (by rw [hk]; simp) (formed_kids hf l (by rw [hk]; simp))]
        have : (!(nodeI t).cut) = true := rfl
        rw [if_pos this, List.map_cons, ih r (by rw [hk]; simp) (formed_kids hf r (by rw [hk]; simp)), List.map_append, List.map_cons]
        rfl
end Go.Pm
