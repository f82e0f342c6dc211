/- The document's tables of SHA-256: Made. -/
import Derived.Test.YtclfnechcblmoaaDoorW14a
namespace Go.Pm
open Go.Proofs
set_option linter.unusedVariables false
set_option linter.unusedSimpArgs false
/-! ### fields of a struct of one's own -/
theorem ld_fld {H : List AObj} {l z j : Nat} {cs : List AV} {v : AV} (h : H[l]? = some (.row z [.agg cs])) (hv : cs[j]? = some v) : loadA false 1 (.ptr l 1 0 j) H = some v := by
  simp only [loadA, h, List.length_singleton, if_true, List.getElem?_cons_zero, Option.bind_some, AV.cells, ldv, Bool.false_eq_true, if_false]
  rw [List.getElem?_drop, Nat.add_zero, hv]
theorem ld_agg {H : List AObj} {l z : Nat} {cs : List AV} (h : H[l]? = some (.row z [.agg cs])) (hz : cs.length = z) : loadA true z (.ptr l 1 0 0) H = some (.agg cs) := by
  simp only [loadA, h, List.length_singleton, if_true, List.getElem?_cons_zero, Option.bind_some, AV.cells, ldv, List.drop_zero]
  rw [if_pos (by omega), List.take_of_length_le (by omega)]
theorem sto_fld {β : Type} {H : List AObj} {l z j : Nat} {cs : List AV} {v : AV} {K : List AObj → List Nat → Option β} (h : H[l]? = some (.row z [.agg cs])) (hj : j < cs.length) (hv : v.cells = [v]) (h1 : v.one = true) :
    stoK 1 (.ptr l 1 0 j) v H K = K (H.set l (.row z [.agg (cs.set j v)])) (escs l [v]) := by
  have h2 : storeA 1 (.ptr l 1 0 j) v H = some (H.set l (.row z [.agg (cs.set j v)]), escs l [v]) := by
    unfold storeA
    simp only [h, List.length_singleton, hv]
    rw [if_pos ⟨trivial, trivial, by simp [h1]⟩]
    have h3 : setC (.agg cs) j [v] = some (.agg (cs.set j v)) := by
      simp only [setC, List.length_singleton]
      rw [if_pos (by omega), List.set_eq_take_append_cons_drop, if_pos hj]
      simp
    simp only [List.getElem?_cons_zero, Option.bind_some, h3, Option.map_some, List.set_cons_zero]
  unfold stoK; rw [h2]; rfl
theorem sto_agg {β : Type} {H : List AObj} {l z : Nat} {cs ds : List AV} {K : List AObj → List Nat → Option β} (h : H[l]? = some (.row z [.agg cs])) (hz : cs.length = z) (hd : ds.length = z) (h1 : ds.all AV.one = true) :
    stoK z (.ptr l 1 0 0) (.agg ds) H K = K (H.set l (.row z [.agg ds])) (escs l ds) := by
  have h2 : storeA z (.ptr l 1 0 0) (.agg ds) H = some (H.set l (.row z [.agg ds]), escs l ds) := by
    unfold storeA
    simp only [h, List.length_singleton, AV.cells]
    rw [if_pos ⟨trivial, hd, h1⟩]
    have h3 : setC (.agg cs) 0 ds = some (.agg ds) := by
      simp only [setC]
      rw [if_pos (by omega)]
      simp [hd, ← hz]
    simp only [List.getElem?_cons_zero, Option.bind_some, h3, Option.map_some, List.set_cons_zero]
  unfold stoK; rw [h2]; rfl
theorem new_agg {β : Type} {cs : List AV} (h0 : cs ≠ []) (h1 : cs.all AV.one = true) (H : List AObj) (K : AV → List AObj → List Nat → Option β) : newK (.agg cs) H K = K (.ptr H.length 1 0 0) (H ++ [.row cs.length [.agg cs]]) [] := by
  have : newA (.agg cs) H = some (.ptr H.length 1 0 0, H ++ [.row cs.length [.agg cs]], []) := by
    unfold newA; rw [if_pos ⟨h0, h1⟩]; rfl
  unfold newK; rw [this]; rfl
theorem frzL_good_cons {H : List AObj} {c u : AV} {cs : List AV} (h1 : frz H c = some u) (h2 : goodL cs = true) : frzL H (c :: cs) = some (u :: cs) := frzL_cons h1 (frzL_good _ _ h2)
theorem lenV_vro {H : List AObj} {l z n : Nat} {es : List AV} (h : H[l]? = some (vro z es)) (hn : n = es.length) : lenV (.slc l 0 n n) H = some (.int .i64 n) := by
  have : lenOf H l = some n := by rw [hn]; exact lenOf_vro h
  simp [lenV, lenA, this]
/-! ### Made -/
theorem add_n1 (d : TypeDesc) (c : TypeId → Bool) (b : Bool) (x : Nat) : binA .add d c b (n64 x) (.int .u64 1) = some (n64 ((x + 1) % 2^64)) := add_n d c b x 1
def zTab : AV := .agg [.nils, .int .u32 0, .int .u32 0, .int .u32 0, .int .u32 0, .int .u32 0, .int .u32 0, .int .u32 0, .int .u32 0]
theorem lit1n {β : Type} (a : Nat) (H : List AObj) (K : AV → List AObj → List Nat → Option β) : litK 1 1 (.int .u64 0) [(0, n64 a)] H K = K (nums [a]) H [] := Eq.trans rfl rfl
theorem litD1w (a : UInt32) (H : List AObj) : litD 1 1 (.int .u32 0) [(0, u32 a)] H = some (.lst ([a].map u32)) := Eq.trans rfl rfl
theorem vro_n {l : List Nat} (h : 0 < l.length) : vro 1 (l.map n64) = .row 1 (l.map n64) := vro_cons (by cases l <;> simp at h ⊢)
theorem made_j8 (A B : AObj) (l : List Nat) (hl : l.length ≤ 64) (h0 : ∀ p ∈ l, p ≠ 0) (k : Nat) (r : R3) : ∀ (m i : Nat) (b : Bool) (Ha : List AObj) (Ea E : List Nat), i + m = l.length →
    (∀ (E : List Nat) (l' : List Nat), l' = (if (b && (l.drop i).all (fun p => !decide (k % p = 0))) = true then l ++ [k] else l) → ref01_Made_J4 0 (.ptr 0 1 0 0) (.ptr 1 1 0 0) (.slc 2 0 l'.length l'.length) (n64 ((k + 1) % 2^64)) [A, B, vro 1 (l'.map n64)] E = some r) →
    ref01_Made_J8 0 Ha Ea (.ptr 0 1 0 0) (.ptr 1 1 0 0) (.slc 2 0 l.length l.length) (n64 k) (.bool b) (.int .i64 (i : Int)) [A, B, vro 1 (l.map n64)] E = some r
  | 0, i, b, Ha, Ea, E, hi, h => by
    refine ref01_Made_J8_of ?_
    have e1 : ¬ ((i : Int) < (l.length : Int)) := by omega
    have e2 : l.drop i = [] := List.drop_eq_nil_of_le (by omega)
    rw [e2] at h
    simp only [lenV_vro (H := [A, B, vro 1 (l.map n64)]) (l := 2) rfl (List.length_map n64).symm, lss_int, e1, decide_false, Option.bind_some, condK_f, add_n1]
    cases b with
    | true =>
      simp only [condK_t, lit1n]
      rw [appK_vro (H := [A, B, vro 1 (l.map n64)]) (l := 2) (es := l.map n64) (ys := [k].map n64) rfl rfl (List.length_map _).symm (lz_n64 [k]) (by decide) (by decide) (by decide) (by simp; omega)]
      have := h (((if ([k].map n64).isEmpty then [] else escs 2 ([k].map n64)) ++ ([] ++ E)) ++ Ea) (l ++ [k]) rfl
      rw [List.map_append, List.length_append] at this
      exact this
    | false =>
      simp only [condK_f]
      exact h _ l rfl
  | m + 1, i, b, Ha, Ea, E, hi, h => by
    refine ref01_Made_J8_of ?_
    have e1 : ((i : Int) < (l.length : Int)) := by omega
    have hil : i < l.length := by omega
    have e2 : l.drop i = l[i] :: l.drop (i + 1) := List.drop_eq_getElem_cons hil
    have e3 : IntKind.i64.wrap ((i : Int) + 1) = ((i + 1 : Nat) : Int) := w64 (by omega) (by omega)
    have hg : l.getD i 0 = l[i] := by simp [List.getD_eq_getElem?_getD, List.getElem?_eq_getElem hil]
    have hne : l[i] ≠ 0 := h0 _ (List.getElem_mem hil)
    rw [e2] at h
    have hrow : ([A, B, vro 1 (l.map n64)] : List AObj)[2]? = some (.row 1 (l.map n64)) := by rw [vro_n (by omega)]; rfl
    simp only [lenV_vro (H := [A, B, vro 1 (l.map n64)]) (l := 2) rfl (List.length_map n64).symm, lss_int, e1, decide_true, Option.bind_some, condK_t]
    cases b with
    | true =>
      simp only [splitK_t, ix_n hrow rfl hil rfl, ld_n hrow rfl hil, hg, Option.bind_some, rem_nn _ _ _ _ _ hne, neq_n0, add_int, e3]
      refine made_j8 A B l hl h0 k r m (i + 1) _ _ _ _ (by omega) fun E l' hl' => h E l' ?_
      rw [hl']; simp only [List.all_cons, Bool.true_and]
    | false =>
      simp only [splitK_f, add_int, Option.bind_some, e3]
      refine made_j8 A B l hl h0 k r m (i + 1) _ _ _ _ (by omega) fun E l' hl' => h E l' ?_
      rw [hl']; simp only [Bool.false_and]
theorem primesG_nz : ∀ (m k : Nat) (l : List Nat), (∀ p ∈ l, p ≠ 0) → k ≠ 0 → k + m < 2^64 → ∀ p ∈ primesG m k l, p ≠ 0
  | 0, k, l, h, hk, _, p, hp => h p hp
  | m + 1, k, l, h, hk, hkm, p, hp => by
    rw [primesG] at hp
    split at hp
    · rw [Nat.mod_eq_of_lt (by omega)] at hp
      refine primesG_nz m (k + 1) _ (fun q hq => ?_) (by omega) (by omega) p hp
      split at hq
      · rcases List.mem_append.1 hq with hq | hq
        · exact h q hq
        · rw [List.mem_singleton.1 hq]; exact hk
      · exact h q hq
    · exact h p hp
theorem made_j4 (A B : AObj) (r : R3) : ∀ (m k : Nat) (l : List Nat) (E : List Nat), l.length ≤ 64 → (∀ p ∈ l, p ≠ 0) → k ≠ 0 → k + m < 2^64 → 64 ≤ (primesG m k l).length →
    (∀ (E : List Nat) (l' : List Nat), l' = primesG m k l → ref01_Made_J14 0 (.ptr 0 1 0 0) (.ptr 1 1 0 0) (.slc 2 0 l'.length l'.length) (.int .i64 0) [A, B, vro 1 (l'.map n64)] E = some r) →
    ref01_Made_J4 0 (.ptr 0 1 0 0) (.ptr 1 1 0 0) (.slc 2 0 l.length l.length) (n64 k) [A, B, vro 1 (l.map n64)] E = some r
  | 0, k, l, E, hl, h0, hk, hkm, hp, h => by
    refine ref01_Made_J4_of ?_
    have e1 : ¬ ((l.length : Int) < 64) := by rw [primesG] at hp; omega
    simp only [lenV_vro (H := [A, B, vro 1 (l.map n64)]) (l := 2) rfl (List.length_map n64).symm, lss_int, e1, decide_false, Option.bind_some, condK_f]
    exact h E l rfl
  | m + 1, k, l, E, hl, h0, hk, hkm, hp, h => by
    refine ref01_Made_J4_of ?_
    rw [primesG] at hp h
    by_cases hlt : l.length < 64
    · have e1 : ((l.length : Int) < 64) := by omega
      rw [if_pos hlt] at hp h
      simp only [lenV_vro (H := [A, B, vro 1 (l.map n64)]) (l := 2) rfl (List.length_map n64).symm, lss_int, e1, decide_true, Option.bind_some, condK_t]
      refine made_j8 A B l hl h0 k r l.length 0 true _ _ _ (by omega) fun E l' hl' => ?_
      rw [List.drop_zero, Bool.true_and] at hl'
      rw [← hl'] at hp h
      rw [Nat.mod_eq_of_lt (by omega)] at hp h ⊢
      refine made_j4 A B r m (k + 1) l' E ?_ ?_ (by omega) (by omega) hp h
      · rw [hl']; split
        · simp; omega
        · exact hl
      · rw [hl']; split
        · intro p hp
          rcases List.mem_append.1 hp with hp | hp
          · exact h0 p hp
          · rw [List.mem_singleton.1 hp]; exact hk
        · exact h0
    · have e1 : ¬ ((l.length : Int) < 64) := by omega
      rw [if_neg hlt] at hp h
      simp only [lenV_vro (H := [A, B, vro 1 (l.map n64)]) (l := 2) rfl (List.length_map n64).symm, lss_int, e1, decide_false, Option.bind_some, condK_f]
      exact h E l rfl
/-- the tables, as the function builds them -/
def tabL (ks : AV) (hs : List UInt32) : List AV := ks :: hs.map u32
def tabR (ks : AV) (hs : List UInt32) : AV := .agg (tabL ks hs)
def tabF : AV := tabR (.lst (kCst.map u32)) hCst
theorem made_j18 (P : List Nat) (hP : P.length = 64) (K : List UInt32) (hK : K.length = 64) : ∀ (m i : Nat) (hs : List UInt32) (E : List Nat), hs.length = i → i + m = 8 →
    ref01_Made_J18 0 (.ptr 0 1 0 0) (.ptr 1 1 0 0) (.slc 2 0 P.length P.length) (.int .i64 (i : Int)) [.row 9 [zTab], .row 9 [tabR (.slc 3 0 64 64) (hs ++ List.replicate m 0)], .row 1 (P.map n64), .row 1 (K.map u32)] E =
      some (tabR (.lst (K.map u32)) (hs ++ ((P.drop i).take m).map fun p => rootW p false), [], [])
  | 0, i, hs, E, hi, hm => by
    refine ref01_Made_J18_of ?_
    have e1 : ¬ ((i : Int) < 8) := by omega
    have l9 : (tabL (.slc 3 0 64 64) (hs ++ List.replicate 0 0)).length = 9 := by simp [tabL]; omega
    have one9 : (tabL (.slc 3 0 64 64) (hs ++ List.replicate 0 0)).all AV.one = true := by
      rw [tabL, List.all_cons, one_u32]; rfl
    simp only [lss_int, e1, decide_false, Option.bind_some, condK_f, tabR]
    rw [ld_agg (cs := tabL (.slc 3 0 64 64) (hs ++ List.replicate 0 0)) rfl l9]
    simp only [Option.bind_some]
    rw [zTab, sto_agg (z := 9) (l := 0) (cs := [.nils, .int .u32 0, .int .u32 0, .int .u32 0, .int .u32 0, .int .u32 0, .int .u32 0, .int .u32 0, .int .u32 0]) rfl rfl l9 one9]
    rw [List.set_cons_zero, ld_agg (cs := tabL (.slc 3 0 64 64) (hs ++ List.replicate 0 0)) rfl l9]
    simp only [Option.bind_some]
    refine endB_frz (u := tabR (.lst (K.map u32)) (hs ++ List.replicate 0 0)) (frz_agg (frzL_good_cons (frz_row (z := 1) (l := 3) rfl (by simp [hK]) (goodL_u32 K)) (goodL_u32 _))) ?_ |>.trans ?_
    · simp [tabR, tabL, AV.good, goodL]
    · simp [tabR, tabL]
  | m + 1, i, hs, E, hi, hm => by
    refine ref01_Made_J18_of ?_
    have e1 : ((i : Int) < 8) := by omega
    have e3 : IntKind.i64.wrap ((i : Int) + 1) = ((i + 1 : Nat) : Int) := w64 (by omega) (by omega)
    have hiP : i < P.length := by omega
    have hrow : ([.row 9 [zTab], .row 9 [tabR (.slc 3 0 64 64) (hs ++ List.replicate (m + 1) 0)], .row 1 (P.map n64), .row 1 (K.map u32)] : List AObj)[2]? = some (.row 1 (P.map n64)) := rfl
    have hg : P.getD i 0 = P[i] := by simp [List.getD_eq_getElem?_getD, List.getElem?_eq_getElem hiP]
    simp only [lss_int, e1, decide_true, Option.bind_some, condK_t, ix_n hrow rfl hiP rfl, ld_n hrow rfl hiP, hg]
    rw [callK_ok (by simp [goodL, AV.good]) (root_ok P[i] false)]
    have ea : arA 8 1 (.ptr 1 1 0 1) (.int .i64 (i : Int)) = some (.ptr 1 1 0 (1 + i)) := by
      simp [arA]; omega
    have hst : ∀ (Kk : List AObj → List Nat → Option R3), stoK 1 (.ptr 1 1 0 (1 + i)) (u32 (rootW P[i] false)) [.row 9 [zTab], .row 9 [tabR (.slc 3 0 64 64) (hs ++ List.replicate (m + 1) 0)], .row 1 (P.map n64), .row 1 (K.map u32)] Kk =
        Kk [.row 9 [zTab], .row 9 [tabR (.slc 3 0 64 64) ((hs ++ [rootW P[i] false]) ++ List.replicate m 0)], .row 1 (P.map n64), .row 1 (K.map u32)] (escs 1 [u32 (rootW P[i] false)]) := fun Kk => by
      rw [sto_fld (l := 1) (cs := tabL (.slc 3 0 64 64) (hs ++ List.replicate (m + 1) 0)) rfl (by simp [tabL]; omega) rfl rfl]
      congr 1
      simp only [List.set_cons_succ, List.set_cons_zero, tabR]
      congr 4
      rw [tabL, tabL]
      rw [show 1 + i = i + 1 by omega, List.set_cons_succ, setu]
      congr 2
      subst hi
      rw [List.set_append_right _ _ (Nat.le_refl _), Nat.sub_self, List.replicate_succ, List.set_cons_zero]; simp
    simp only [offA_ptr, Nat.zero_add, Option.bind_some, ea, hst, add_int, e3]
    have := made_j18 P hP K hK m (i + 1) (hs ++ [rootW P[i] false]) ((escs 1 [u32 (rootW P[i] false)] ++ ([] ++ [])) ++ E) (by simp [hi]) (by omega)
    rw [this]
    congr 2
    rw [List.drop_eq_getElem_cons hiP, List.take_succ_cons]; simp
theorem made_j14 (P : List Nat) (hP : P.length = 64) : ∀ (m i : Nat) (K : List UInt32) (E : List Nat), K.length = i → i + m = 64 → 0 < i →
    ref01_Made_J14 0 (.ptr 0 1 0 0) (.ptr 1 1 0 0) (.slc 2 0 P.length P.length) (.int .i64 (i : Int)) [.row 9 [zTab], .row 9 [tabR (.slc 3 0 i i) (List.replicate 8 0)], .row 1 (P.map n64), .row 1 (K.map u32)] E =
      some (tabR (.lst ((K ++ (P.drop i).map fun p => rootW p true).map u32)) ((P.take 8).map fun p => rootW p false), [], [])
  | 0, i, K, E, hK, hi, h0 => by
    refine ref01_Made_J14_of ?_
    have e1 : ¬ ((i : Int) < 64) := by omega
    obtain rfl : i = 64 := by omega
    simp only [lss_int, e1, decide_false, Option.bind_some, condK_f]
    have := made_j18 P hP K hK 8 0 [] E rfl rfl
    rw [List.drop_eq_nil_of_le (by omega)]
    simpa using this
  | m + 1, i, K, E, hK, hi, h0 => by
    refine ref01_Made_J14_of ?_
    have e1 : ((i : Int) < 64) := by omega
    have e3 : IntKind.i64.wrap ((i : Int) + 1) = ((i + 1 : Nat) : Int) := w64 (by omega) (by omega)
    have hiP : i < P.length := by omega
    have hrow : ([.row 9 [zTab], .row 9 [tabR (.slc 3 0 i i) (List.replicate 8 0)], .row 1 (P.map n64), .row 1 (K.map u32)] : List AObj)[2]? = some (.row 1 (P.map n64)) := rfl
    have hg : P.getD i 0 = P[i] := by simp [List.getD_eq_getElem?_getD, List.getElem?_eq_getElem hiP]
    have hld : loadA false 1 (.ptr 1 1 0 0) [.row 9 [zTab], .row 9 [tabR (.slc 3 0 i i) (List.replicate 8 0)], .row 1 (P.map n64), .row 1 (K.map u32)] = some (.slc 3 0 i i) := rfl
    simp only [lss_int, e1, decide_true, Option.bind_some, condK_t, offA_ptr, Nat.zero_add, hld, ix_n hrow rfl hiP rfl, ld_n hrow rfl hiP, hg]
    rw [callD_ok (env := EV C) (by simp [goodL, AV.good]) (root_ok P[i] true)]
    simp only [Option.bind_some, litD1w]
    rw [appK_row (l := 3) (es := K.map u32) (ys := [rootW P[i] true].map u32) rfl rfl (by simp [hK]) (lz_u32 _) (by decide) (by decide) (by decide) (by simp; omega)]
    have hst : ∀ (X : AObj) (Kk : List AObj → List Nat → Option R3), stoK 1 (.ptr 1 1 0 0) (.slc 3 0 (i + 1) (i + 1)) [.row 9 [zTab], .row 9 [tabR (.slc 3 0 i i) (List.replicate 8 0)], .row 1 (P.map n64), X] Kk =
        Kk [.row 9 [zTab], .row 9 [tabR (.slc 3 0 (i + 1) (i + 1)) (List.replicate 8 0)], .row 1 (P.map n64), X] (escs 1 [.slc 3 0 (i + 1) (i + 1)]) := fun X Kk => by
      rw [sto_fld (l := 1) (cs := tabL (.slc 3 0 i i) (List.replicate 8 0)) rfl (by simp [tabL]) rfl rfl]
      rfl
    simp only [List.length_map, List.length_singleton, List.set_cons_succ, List.set_cons_zero, ← List.map_append, offA_ptr, Nat.zero_add, Option.bind_some, hst, add_int, e3]
    have := made_j14 P hP m (i + 1) (K ++ [rootW P[i] true])
    rw [this _ (by simp [hK]) (by omega) (by omega)]
    have e : K ++ [rootW P[i] true] ++ (P.drop (i + 1)).map (fun p => rootW p true) = K ++ (P.drop i).map fun p => rootW p true := by
      rw [List.drop_eq_getElem_cons hiP, List.map_cons, List.append_assoc]; rfl
    rw [e]
theorem made_head (P : List Nat) (hP : P.length = 64) (E : List Nat) : ref01_Made_J14 0 (.ptr 0 1 0 0) (.ptr 1 1 0 0) (.slc 2 0 P.length P.length) (.int .i64 0) [.row 9 [zTab], .row 9 [zTab], .row 1 (P.map n64)] E =
    some (tabR (.lst ((P.map fun p => rootW p true).map u32)) ((P.take 8).map fun p => rootW p false), [], []) := by
  refine ref01_Made_J14_of ?_
  have hrow : ([.row 9 [zTab], .row 9 [zTab], .row 1 (P.map n64)] : List AObj)[2]? = some (.row 1 (P.map n64)) := rfl
  have hld : loadA false 1 (.ptr 1 1 0 0) [.row 9 [zTab], .row 9 [zTab], .row 1 (P.map n64)] = some .nils := rfl
  have hiP : 0 < P.length := by omega
  have hg : P.getD 0 0 = P[0] := by simp [List.getD_eq_getElem?_getD, List.getElem?_eq_getElem hiP]
  simp only [lss_int, show ((0 : Int) < 64) from by decide, decide_true, Option.bind_some, condK_t, offA_ptr, Nat.zero_add, hld, ix_n hrow rfl hiP (show (0 : Int) = ((0 : Nat) : Int) from rfl), ld_n hrow rfl hiP, hg]
  rw [callD_ok (env := EV C) (by simp [goodL, AV.good]) (root_ok P[0] true)]
  simp only [Option.bind_some, litD1w]
  have hap : ∀ (x : UInt32) (K : AV → List AObj → List Nat → Option R3), appK 1 4 .nils (.lst ([x].map u32)) [.row 9 [zTab], .row 9 [zTab], .row 1 (P.map n64)] K = K (.slc 3 0 1 1) [.row 9 [zTab], .row 9 [zTab], .row 1 (P.map n64), .row 1 ([x].map u32)] [] := fun x K => Eq.trans rfl rfl
  have hst : ∀ (X : AObj) (Kk : List AObj → List Nat → Option R3), stoK 1 (.ptr 1 1 0 0) (.slc 3 0 1 1) [.row 9 [zTab], .row 9 [zTab], .row 1 (P.map n64), X] Kk =
        Kk [.row 9 [zTab], .row 9 [tabR (.slc 3 0 1 1) (List.replicate 8 0)], .row 1 (P.map n64), X] (escs 1 [.slc 3 0 1 1]) := fun X Kk => by
    rw [show zTab = .agg [.nils, .int .u32 0, .int .u32 0, .int .u32 0, .int .u32 0, .int .u32 0, .int .u32 0, .int .u32 0, .int .u32 0] from rfl]
    rw [sto_fld (l := 1) (cs := [.nils, .int .u32 0, .int .u32 0, .int .u32 0, .int .u32 0, .int .u32 0, .int .u32 0, .int .u32 0, .int .u32 0]) rfl (by simp) rfl rfl]
    rfl
  simp only [hap, hst, offA_ptr, Nat.zero_add, Option.bind_some, add_int, show IntKind.i64.wrap (0 + 1) = ((1 : Nat) : Int) from by decide]
  rw [made_j14 P hP 63 1 [rootW P[0] true] _ rfl rfl (by decide)]
  have e1 : P = P[0] :: P.drop 1 := by
    conv => lhs; rw [← List.drop_zero (l := P), List.drop_eq_getElem_cons hiP]
  have e2 : [rootW P[0] true] ++ (P.drop 1).map (fun p => rootW p true) = P.map fun p => rootW p true := by
    conv => rhs; rw [e1]
    rfl
  rw [e2]
theorem Made_ok : EV C n_ref01_Made [] [] = some (tabF, [], []) := by
  refine ref01_Made_of ?_
  have hz : ∀ (H : List AObj) (K : AV → List AObj → List Nat → Option R3), newK (.agg [.nils, .int .u32 0, .int .u32 0, .int .u32 0, .int .u32 0, .int .u32 0, .int .u32 0, .int .u32 0, .int .u32 0]) H K = K (.ptr H.length 1 0 0) (H ++ [.row 9 [zTab]]) [] := fun H K => new_agg (by simp) rfl H K
  simp only [hz, List.length_nil, List.nil_append, List.length_singleton, List.cons_append, List.length_cons, Nat.reduceAdd, List.append_nil]
  have hlen : primesL.length = 64 := by rw [primesL_eq]; rfl
  refine made_j4 (.row 9 [zTab]) (.row 9 [zTab]) _ 310 2 [] [] (by simp) (by simp) (by decide) (by decide) (by show 64 ≤ primesL.length; omega) fun E l' hl' => ?_
  have hl' : l' = primesL := hl'
  rw [← hl'] at hlen
  rw [vro_n (by omega), made_head l' hlen E, hl', kT_eq, hT_eq]
  rfl
end Go.Pm
