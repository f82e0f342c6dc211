/- The document's digests, and its search for clashes. -/
import Derived.Test.YtclfnechcblmoaaDoorKS
import Derived.Test.YtclfnechcblmoaaDoorW16
import Derived.Test.YtclfnechcblmoaaDoorW9
import Derived.Test.YtclfnechcblmoaaDoorT6
namespace Go.Pm
open Go.Proofs
set_option linter.unusedVariables false
set_option linter.unusedSimpArgs false
theorem rNumber_ok (n : Nat) (h : n ≤ 247) (H : List AObj) : EV C n_ref02_Number [.int .u64 (n : Int)] H = some (.slc H.length 0 1 1, H ++ [.row 1 ([UInt8.ofNat n].map u8)], []) := by
  refine ref02_Number_of ?_
  have e1 : (n : Int) < 248 := by omega
  simp only [lss_int, e1, decide_true, Option.bind_some, condK_t, cvI_int, wrap_u8, ← u8_nat, raw1]
  exact endB_raw
theorem rBytes_ok (l : List UInt8) (h : l.length ≤ 247) : EV C n_ref02_Bytes [bys l] [] = some (bys (UInt8.ofNat l.length :: l), [], []) := by
  refine ref02_Bytes_of ?_
  simp only [lenV_bys, Option.bind_some, cvI_int, wrap_u64 (show l.length < 2^64 by omega)]
  rw [callK_raw (rNumber_ok l.length h [])]
  simp only [List.length_nil, List.nil_append]
  rw [appB (n := 1) (es := [UInt8.ofNat l.length]) (ys := l) (elemsA_bys _ _) rfl rfl (by omega)]
  exact endB_frz (frz_row (z := 1) (es := (UInt8.ofNat l.length :: l).map u8) rfl (by simp; omega) (goodL_u8 _)) (good_bys _)
theorem good_tab : tabF.good = true := rfl
theorem new_tab {β : Type} (H : List AObj) (K : AV → List AObj → List Nat → Option β) : newK tabF H K = K (.ptr H.length 1 0 0) (H ++ [.row 9 [tabF]]) [] := new_agg (by simp [tabL]) rfl H K
theorem ld_tab0 (T : List AObj) : loadA true 9 (.ptr 0 1 0 0) (.row 9 [tabF] :: T) = some tabF := ld_agg (cs := tabL (.lst (kCst.map u32)) hCst) rfl rfl
theorem rOf_ok (w : Int) (hw : wOk w = true) (b : List UInt8) (hb : b.length ≤ 2^45) : EV C n_ref03_Of [tabF, .int .i64 w, bys b] [] = some (bys (ofF w b), [], []) := by
  refine ref03_Of_of ?_
  simp only [wOk, decide_eq_true_eq] at hw
  simp only [new_tab, List.length_nil, List.nil_append, ld_tab0, Option.bind_some]
  rw [callK_ok (by simp [good_tab]) (rSum_ok b hb)]
  have e : w = ((w.toNat : Nat) : Int) := by omega
  rw [cutA_bys (l := sumF b) (i := 0) (j := w.toNat) rfl (by rw [← e]; rfl) (by omega) (by rw [sumF_len]; omega)]
  exact endB_good (by simp)
theorem rValue_ok (v : List UInt8) (h : v.length ≤ 2^45) : EV C n_ref03_Value [bys v] [] = some (bys (0 :: v), [], []) := by
  refine ref03_Value_of ?_
  simp only []
  rw [raw0' 0 0 rfl, List.length_nil, List.nil_append, appB (n := 1) (es := [0]) (ys := v) (elemsA_bys _ _) rfl rfl (by omega)]
  exact endB_frz (frz_row (z := 1) (es := (0 :: v).map u8) rfl (by simp; omega) (goodL_u8 _)) (good_bys _)
theorem rPair_ok (key v : List UInt8) (hk : key.length ≤ 247) (hv : v.length ≤ 2^40) : EV C n_ref03_Pair [bys key, bys v] [] = some (bys (pairF key v), [], []) := by
  refine ref03_Pair_of ?_
  simp only []
  rw [raw0' 1 1 rfl, callK_ok (by simp) (rBytes_ok key hk), List.length_nil, List.nil_append, appB (n := 1) (es := [1]) (ys := UInt8.ofNat key.length :: key) (elemsA_bys _ _) rfl rfl (by simp; omega)]
  rw [List.set_cons_zero, appB (es := [1] ++ UInt8.ofNat key.length :: key) (ys := v) (elemsA_bys _ _) rfl (by simp; omega) (by simp; omega)]
  exact endB_frz (u := bys (pairF key v)) (frz_row (z := 1) (es := (pairF key v).map u8) (by simp [pairF]) (by simp [pairF]; omega) (goodL_u8 _)) (good_bys _)
theorem rNode_ok (l p r : List UInt8) (hl : l.length ≤ 2^40) (hp : p.length ≤ 2^40) (hr : r.length ≤ 2^40) : EV C n_ref03_Node [bys l, bys p, bys r] [] = some (bys (nodeF l p r), [], []) := by
  refine ref03_Node_of ?_
  simp only []
  rw [raw0' 2 2 rfl, List.length_nil, List.nil_append, appB (n := 1) (es := [2]) (ys := l) (elemsA_bys _ _) rfl rfl (by omega)]
  rw [List.set_cons_zero, appB (es := [2] ++ l) (ys := p) (elemsA_bys _ _) rfl (by simp; omega) (by omega)]
  rw [List.set_cons_zero, appB (es := [2] ++ l ++ p) (ys := r) (elemsA_bys _ _) rfl (by simp; omega) (by omega)]
  exact endB_frz (u := bys (nodeF l p r)) (frz_row (z := 1) (es := (nodeF l p r).map u8) (by simp [nodeF]) (by simp [nodeF]; omega) (goodL_u8 _)) (good_bys _)
/-! ### Deep, Formed, Check -/
theorem rdeep_loop (t : Tre) (n : Int) (hn : 0 < n) (hn2 : n < 2^60) (hk : t.kids.length ≤ 2^50) (ih : ∀ k ∈ t.kids, ∀ n : Int, 0 ≤ n → n < 2^60 → EV C n_ref04_Deep [k.av, .int .i64 n] [] = some (.bool (deepF k n), [], [])) : ∀ (m i : Nat) (E : List Nat), i + m = t.kids.length →
    ref04_Deep_J5 0 (.int .i64 n) (.ptr 0 1 0 0) (.int .i64 (i : Int)) [.row 5 [t.av]] E = some (.bool ((t.kids.drop i).any fun k => deepF k (n - 1)), [], [])
  | 0, i, E, h => by
    refine ref04_Deep_J5_of ?_
    have e1 : ¬ ((i : Int) < (t.kids.length : Int)) := by omega
    have e2 : t.kids.drop i = [] := List.drop_eq_nil_of_le (by omega)
    simp -implicitDefEqProofs only [e1, e2, ZS, ZT, Nat.reduceAdd]
    exact endB_good rfl
  | m + 1, i, E, h => by
    refine ref04_Deep_J5_of ?_
    have hi : i < t.kids.length := by omega
    have e1 : ((i : Int) < (t.kids.length : Int)) := by omega
    have e2 : t.kids.drop i = t.kids[i] :: t.kids.drop (i + 1) := List.drop_eq_getElem_cons hi
    have e3 : IntKind.i64.wrap ((i : Int) + 1) = ((i + 1 : Nat) : Int) := w64 (by omega) (by omega)
    have e4 : IntKind.i64.wrap (n - 1) = n - 1 := by rw [wrap64] <;> omega
    simp -implicitDefEqProofs only [e1, e2, e4, sub_int, ixA_kids (List.getElem?_eq_getElem hi), ZS, ZT, Nat.reduceAdd]
    rw [callK_ok (by simp) (ih t.kids[i] (List.getElem_mem hi) (n - 1) (by omega) (by omega)), List.any_cons]
    cases hd : deepF t.kids[i] (n - 1) with
    | true => simp only [condK_t, Bool.true_or]; exact endB_good rfl
    | false =>
      simp only [condK_f, Bool.false_or, add_int, e3, Option.bind_some]
      exact rdeep_loop t n hn hn2 hk ih m (i + 1) _ (by omega)
theorem rDeep_ok (t : Tre) : t.ok → ∀ n : Int, 0 ≤ n → n < 2^60 → EV C n_ref04_Deep [t.av, .int .i64 n] [] = some (.bool (deepF t n), [], []) := by
  induction t using Tre.ind with
  | h t ih =>
    intro ht n h0 h1
    obtain ⟨_, _, _, hk, hks⟩ := (ok_eq t).1 ht
    have go : 0 < n ∨ t.kids.length = 0 → (t.isNode && decide (n < 1)) = false → ∀ E, ref04_Deep_J5 0 (.int .i64 n) (.ptr 0 1 0 0) (.int .i64 0) [.row 5 [t.av]] E = some (.bool (deepF t n), [], []) := fun hn hc E => by
      rw [deepF_eq, hc, Bool.false_or]
      by_cases hp : 0 < n
      · exact rdeep_loop t n hp h1 hk (fun k hk n h0 h1 => ih k hk (hks k hk) n h0 h1) t.kids.length 0 E (by omega)
      · have hz : t.kids.length = 0 := by omega
        refine ref04_Deep_J5_of ?_
        have hnil : t.kids = [] := List.length_eq_zero_iff.1 hz
        have e1 : ¬ ((0 : Int) < (t.kids.length : Int)) := by omega
        simp -implicitDefEqProofs only [e1, hnil, List.any_nil, ZS, ZT, Nat.reduceAdd]
        simp -implicitDefEqProofs only [Int.natCast_zero, Int.lt_irrefl, decide_false, condK_f, List.length_nil, Option.bind_some, ZS, Nat.reduceAdd]
        exact endB_good rfl
    have tt : t.isNode = true → n = 0 → deepF t n = true := fun h h2 => by rw [deepF_eq, h]; simp [h2]
    refine ref04_Deep_of ?_
    simp -implicitDefEqProofs only [ZS, ZT, Nat.reduceAdd]
    split
    · rename_i hk1
      have hn : t.isNode = true := by simp [Tre.isNode, hk1]
      split
      · rename_i h2; rw [tt hn h2]; exact endB_good rfl
      · rename_i h2; exact go (by omega) (by simp; intros; omega) _
    · rename_i hk1
      split
      · rename_i hk2
        have hn : t.isNode = true := by simp [Tre.isNode, hk2]
        split
        · rename_i h2; rw [tt hn h2]; exact endB_good rfl
        · rename_i h2; exact go (by omega) (by simp; intros; omega) _
      · rename_i hk2
        split
        · rename_i hk3
          have hn : t.isNode = true := by simp [Tre.isNode]; omega
          split
          · rename_i h2; rw [tt hn h2]; exact endB_good rfl
          · rename_i h2; exact go (by omega) (by simp; intros; omega) _
        · rename_i hk3
          exact go (by omega) (by simp [Tre.isNode, hk1, hk2]; omega) _
theorem rformed_loop (t : Tre) (hk : t.kids.length ≤ 2^50) (ih : ∀ k ∈ t.kids, EV C n_ref04_Formed [k.av] [] = some (.bool (formedF k), [], [])) : ∀ (m i : Nat) (b : Bool) (E : List Nat), i + m = t.kids.length →
    ref04_Formed_J16 0 (.ptr 0 1 0 0) (.int .i64 (t.kids.length : Int)) (.bool b) (.int .i64 (i : Int)) [.row 5 [t.av]] E = some (.bool (b && (t.kids.drop i).all formedF), [], [])
  | 0, i, b, E, h => by
    refine ref04_Formed_J16_of ?_
    have e1 : ¬ ((i : Int) < (t.kids.length : Int)) := by omega
    have e2 : t.kids.drop i = [] := List.drop_eq_nil_of_le (by omega)
    simp -implicitDefEqProofs only [e1, e2, ZS, ZT, Nat.reduceAdd, List.all_nil, Bool.and_true]
    exact endB_good rfl
  | m + 1, i, b, E, h => by
    refine ref04_Formed_J16_of ?_
    have hi : i < t.kids.length := by omega
    have e1 : ((i : Int) < (t.kids.length : Int)) := by omega
    have e2 : t.kids.drop i = t.kids[i] :: t.kids.drop (i + 1) := List.drop_eq_getElem_cons hi
    have e3 : IntKind.i64.wrap ((i : Int) + 1) = ((i + 1 : Nat) : Int) := w64 (by omega) (by omega)
    simp -implicitDefEqProofs only [e1, e2, ixA_kids (List.getElem?_eq_getElem hi), ZS, ZT, Nat.reduceAdd]
    cases b with
    | false => simp only [condK_f, Bool.false_and]; exact endB_good rfl
    | true =>
      simp only [condK_t]
      rw [callK_ok (by simp) (ih t.kids[i] (List.getElem_mem hi)), List.all_cons]
      simp only [add_int, e3, Option.bind_some, Bool.true_and]
      exact rformed_loop t hk ih m (i + 1) _ _ (by omega)
theorem rFormed_ok (t : Tre) : t.ok → EV C n_ref04_Formed [t.av] [] = some (.bool (formedF t), [], []) := by
  induction t using Tre.ind with
  | h t ih =>
    intro ht
    obtain ⟨ha, hb, hc, hk, hks⟩ := (ok_eq t).1 ht
    have fin : ∀ (b : Bool) (E : List Nat), formed1 t = b → ref04_Formed_J16 0 (.ptr 0 1 0 0) (.int .i64 (t.kids.length : Int)) (.bool b) (.int .i64 0) [.row 5 [t.av]] E = some (.bool (formedF t), [], []) := fun b E h => by
      rw [formedF_eq, h]
      exact rformed_loop t hk (fun k hk => ih k hk (hks k hk)) t.kids.length 0 b E (by omega)
    refine ref04_Formed_of ?_
    simp -implicitDefEqProofs only [ZS, ZT, Nat.reduceAdd]
    split
    · rename_i h0
      have f1 : formed1 t = decide (t.key.length + t.value.length + t.digest.length + t.kids.length = 0) := by simp only [formed1, h0, if_true]
      split
      · split
        · split
          · exact fin _ _ (by rw [f1]; exact dec_iff (by omega))
          · exact fin _ _ (by rw [f1]; simp only [decide_eq_false_iff_not]; omega)
        · exact fin _ _ (by rw [f1]; simp only [decide_eq_false_iff_not]; omega)
      · exact fin _ _ (by rw [f1]; simp only [decide_eq_false_iff_not]; omega)
    · rename_i h0
      split
      · rename_i h1
        have f1 : formed1 t = (decide (t.key.length ≤ 80) && (decide (t.value.length ≤ 1024) && (decide (t.digest.length = 0) && decide (t.kids.length = 2)))) := by
          simp only [formed1]; rw [if_neg h0, if_pos h1]
        split
        · split
          · split
            · refine fin _ _ ?_
              rw [f1, show decide (t.key.length ≤ 80) = true from decide_eq_true (by omega), show decide (t.value.length ≤ 1024) = true from decide_eq_true (by omega), show decide (t.digest.length = 0) = true from decide_eq_true (by omega)]
              exact dec_iff (by omega)
            · exact fin _ _ (by rw [f1]; simp only [Bool.and_eq_false_iff, decide_eq_false_iff_not]; omega)
          · exact fin _ _ (by rw [f1]; simp only [Bool.and_eq_false_iff, decide_eq_false_iff_not]; omega)
        · exact fin _ _ (by rw [f1]; simp only [Bool.and_eq_false_iff, decide_eq_false_iff_not]; omega)
      · rename_i h1
        split
        · rename_i h2
          have f1 : formed1 t = (decide (t.key.length ≤ 80) && (decide (t.value.length = 0) && decide (t.kids.length = 2))) := by
            simp only [formed1]; rw [if_neg h0, if_neg h1, if_pos h2]
          split
          · split
            · refine fin _ _ ?_
              rw [f1, show decide (t.key.length ≤ 80) = true from decide_eq_true (by omega), show decide (t.value.length = 0) = true from decide_eq_true (by omega)]
              exact dec_iff (by omega)
            · exact fin _ _ (by rw [f1]; simp only [Bool.and_eq_false_iff, decide_eq_false_iff_not]; omega)
          · exact fin _ _ (by rw [f1]; simp only [Bool.and_eq_false_iff, decide_eq_false_iff_not]; omega)
        · rename_i h2
          split
          · rename_i h3
            have f1 : formed1 t = decide (t.key.length + t.value.length + t.kids.length = 0) := by
              simp only [formed1]; rw [if_neg h0, if_neg h1, if_neg h2, if_pos h3]
            split
            · split
              · exact fin _ _ (by rw [f1]; exact dec_iff (by omega))
              · exact fin _ _ (by rw [f1]; simp only [decide_eq_false_iff_not]; omega)
            · exact fin _ _ (by rw [f1]; simp only [decide_eq_false_iff_not]; omega)
          · rename_i h3
            exact fin _ _ (by simp only [formed1]; rw [if_neg h0, if_neg h1, if_neg h2, if_neg h3])
theorem rCheck_ok (t : Tre) (ht : t.ok) : EV C n_ref04_Check [t.av] [] = some (.int .i64 (checkF t), [], []) := by
  refine ref04_Check_of ?_
  simp -implicitDefEqProofs only [ZS, ZT, Nat.reduceAdd]
  rw [callK_ok (by simp) (rDeep_ok t ht 64 (by decide) (by decide))]
  cases hd : deepF t 64 with
  | true => simp only [condK_t, checkF, hd, if_true]; exact endB_good rfl
  | false =>
    simp only [condK_f, checkF, hd, Bool.false_eq_true, if_false, ld_tr0, Option.bind_some]
    rw [callK_ok (by simp) (rFormed_ok t ht)]
    cases hf : formedF t with
    | true => simp only [not_bool, Bool.not_true, Option.bind_some, condK_f, if_true]; exact endB_good rfl
    | false => simp only [not_bool, Bool.not_false, Option.bind_some, condK_t, Bool.false_eq_true, if_false]; exact endB_good rfl
/-! ### Digest -/
def rdF (w : Int) (t : Tre) : List UInt8 × Bool := if t.kind = 3 then (t.digest, decide ((t.digest.length : Int) = w)) else match toldF w t with | some d => (d, true) | none => ([], false)
theorem rdF_some {w : Int} {t : Tre} {d : List UInt8} (h : toldF w t = some d) : rdF w t = (d, true) := by
  unfold rdF
  by_cases h3 : t.kind = 3
  · rw [told_cut w t h3] at h
    split at h
    · rename_i hl; injection h with h; subst h; simp [h3, hl]
    · cases h
  · rw [if_neg h3, h]
theorem rdF_none {w : Int} {t : Tre} (h : toldF w t = none) : (rdF w t).2 = false := by
  unfold rdF
  by_cases h3 : t.kind = 3
  · rw [told_cut w t h3] at h
    split at h
    · cases h
    · rename_i hl; simp [h3, hl]
  · rw [if_neg h3, h]
def resR (p : List UInt8 × Bool) : AV := .tup [bys p.1, .bool p.2]
@[simp] theorem good_resR (p : List UInt8 × Bool) : (resR p).good = true := by simp [resR, AV.good, goodL]
theorem rDigest_ok (w : Int) (hw : wOk w = true) (t : Tre) : t.ok → formedF t = true → EV C n_ref04_Digest [tabF, .int .i64 w, t.av] [] = some (resR (rdF w t), [], []) := by
  have hw' : 1 ≤ w ∧ w ≤ 32 := by simpa [wOk] using hw
  induction t using Tre.ind with
  | h t ih =>
    intro ht hf
    obtain ⟨ha, hb, hc, hk, hks⟩ := (ok_eq t).1 ht
    have bad : ∀ (H : List AObj) (E : List Nat), endB false false 0 (.tup [.nils, .bool false]) H E = some (resR ([], false), [], []) := fun H E => endB_frz rfl rfl
    refine ref04_Digest_of ?_
    simp -implicitDefEqProofs only [new_tab, ld_tab0, ZS, ZT, Nat.reduceAdd]
    by_cases h0 : t.kind = 0
    · rw [if_pos h0, lit0 3 3 rfl, callK_ok (by simp [good_tab]) (rOf_ok w hw [3] (by simp)), rdF_some (told_none w t h0)]
      exact endB_good (by simp [AV.good, goodL])
    · rw [if_neg h0]
      by_cases h3 : t.kind = 3
      · rw [if_pos h3]
        have : rdF w t = (t.digest, decide ((t.digest.length : Int) = w)) := by unfold rdF; rw [if_pos h3]
        rw [this]
        exact endB_good (by simp [AV.good, goodL])
      · rw [if_neg h3]
        obtain ⟨hkk, hka, hva, l, r, hks2⟩ := formed_node hf h0 h3
        have hl : l ∈ t.kids := by rw [hks2]; simp
        have hr : r ∈ t.kids := by rw [hks2]; simp
        have il := ih l hl (hks l hl) (formed_kids hf l hl)
        have ir := ih r hr (hks r hr) (formed_kids hf r hr)
        have x0 : ∀ H, ixA 5 (kidsA t.kids) (.int .i64 0) H = some (.ip l.av.cells) := fun H => ixA_kids (i := 0) (by rw [hks2]; rfl)
        have x1 : ∀ H, ixA 5 (kidsA t.kids) (.int .i64 1) H = some (.ip r.av.cells) := fun H => ixA_kids (i := 1) (by rw [hks2]; rfl)
        have tn := told_node w t l r h0 h3 hks2
        have rd3 : rdF w t = match toldF w t with | some d => (d, true) | none => ([], false) := by unfold rdF; rw [if_neg h3]
        by_cases h1 : t.kind = 1
        · have hpv : pv w t = ofF w (0 :: t.value) := by simp [pv, h1]
          have hl1 : ((ofF w (0 :: t.value)).length : Int) = w := ofF_len hw _
          have hpl : ((ofF w (pairF t.key (ofF w (0 :: t.value)))).length : Int) = w := ofF_len hw _
          rw [if_pos h1, callD_ok (env := EV C) (by simp) (rValue_ok t.value (by omega))]
          rw [Option.bind_some, callD_ok (env := EV C) (by simp [good_tab]) (rOf_ok w hw (0 :: t.value) (by simp; omega))]
          rw [hpv, if_pos hl1] at tn
          simp -implicitDefEqProofs only [hl1, x0, x1, ZS, ZT, Nat.reduceAdd]
          rw [callD_ok (env := EV C) (by simp [good_tab]) il]
          simp -implicitDefEqProofs only [resR, ZS, ZT, Nat.reduceAdd]
          rw [callD_ok (env := EV C) (by simp [good_tab]) ir]
          simp -implicitDefEqProofs only [resR, ZS, ZT, Nat.reduceAdd]
          cases hL : toldF w l with
          | none =>
            rw [hL] at tn
            rw [rd3, tn, rdF_none hL]
            simp -implicitDefEqProofs only [ZS, ZT, Nat.reduceAdd]
            exact bad _ _
          | some x =>
            rw [rdF_some hL]
            simp -implicitDefEqProofs only [ZS, ZT, Nat.reduceAdd]
            cases hR : toldF w r with
            | none =>
              rw [hL, hR] at tn
              rw [rd3, tn, rdF_none hR]
              simp -implicitDefEqProofs only [ZS, ZT, Nat.reduceAdd]
              exact bad _ _
            | some y =>
              rw [hL, hR] at tn
              rw [rd3, tn, rdF_some hR]
              have hx := told_len hw l (formed_kids hf l hl) hL
              have hy := told_len hw r (formed_kids hf r hr) hR
              simp -implicitDefEqProofs only [ZS, ZT, Nat.reduceAdd]
              rw [callD_ok (env := EV C) (by simp) (rPair_ok t.key _ (by omega) (by omega)), Option.bind_some]
              rw [callD_ok (env := EV C) (by simp [good_tab]) (rOf_ok w hw _ (by rw [pairF_len]; omega)), Option.bind_some]
              rw [callD_ok (env := EV C) (by simp) (rNode_ok x _ y (by omega) (by omega) (by omega)), Option.bind_some]
              rw [callD_ok (env := EV C) (by simp [good_tab]) (rOf_ok w hw _ (by rw [nodeF_len]; omega)), Option.bind_some]
              exact endB_good (by simp [AV.good, goodL])
        · have h2 : t.kind = 2 := by omega
          have hpv : pv w t = t.digest := by simp [pv, h1]
          rw [if_neg h1]
          rw [hpv] at tn
          by_cases hl1 : (t.digest.length : Int) = w
          · have hpl : ((ofF w (pairF t.key t.digest)).length : Int) = w := ofF_len hw _
            rw [if_pos hl1] at tn
            simp -implicitDefEqProofs only [hl1, x0, x1, ZS, ZT, Nat.reduceAdd]
            rw [callD_ok (env := EV C) (by simp [good_tab]) il]
            simp -implicitDefEqProofs only [resR, ZS, ZT, Nat.reduceAdd]
            rw [callD_ok (env := EV C) (by simp [good_tab]) ir]
            simp -implicitDefEqProofs only [resR, ZS, ZT, Nat.reduceAdd]
            cases hL : toldF w l with
            | none =>
              rw [hL] at tn
              rw [rd3, tn, rdF_none hL]
              simp -implicitDefEqProofs only [ZS, ZT, Nat.reduceAdd]
              exact bad _ _
            | some x =>
              rw [rdF_some hL]
              simp -implicitDefEqProofs only [ZS, ZT, Nat.reduceAdd]
              cases hR : toldF w r with
              | none =>
                rw [hL, hR] at tn
                rw [rd3, tn, rdF_none hR]
                simp -implicitDefEqProofs only [ZS, ZT, Nat.reduceAdd]
                exact bad _ _
              | some y =>
                rw [hL, hR] at tn
                rw [rd3, tn, rdF_some hR]
                have hx := told_len hw l (formed_kids hf l hl) hL
                have hy := told_len hw r (formed_kids hf r hr) hR
                simp -implicitDefEqProofs only [ZS, ZT, Nat.reduceAdd]
                rw [callD_ok (env := EV C) (by simp) (rPair_ok t.key _ (by omega) (by omega)), Option.bind_some]
                rw [callD_ok (env := EV C) (by simp [good_tab]) (rOf_ok w hw _ (by rw [pairF_len]; omega)), Option.bind_some]
                rw [callD_ok (env := EV C) (by simp) (rNode_ok x _ y (by omega) (by omega) (by omega)), Option.bind_some]
                rw [callD_ok (env := EV C) (by simp [good_tab]) (rOf_ok w hw _ (by rw [nodeF_len]; omega)), Option.bind_some]
                exact endB_good (by simp [AV.good, goodL])
          · rw [if_neg hl1] at tn
            simp -implicitDefEqProofs only [hl1, ZS, ZT, Nat.reduceAdd]
            rw [rd3, tn]
            exact bad _ _
end Go.Pm
