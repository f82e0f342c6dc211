/- A part of the proof: what the functions of the program answer, as plain lists and numbers. -/
import Derived.Test.YtclfnechcblmoaaDoorP7
import Derived.Test.YtclfnechcblmoaaDoorP24
import Derived.Test.YtclfnechcblmoaaDoorP36
namespace Go.Pm
open Go.Proofs
set_option linter.unusedVariables false
set_option linter.unusedSimpArgs false
mutual
/-- a tree whose keys and values are lent -/
def Tre.lv : Tre → AV
  | .mk k a b c ks => .agg [.int .i64 k, lbys a, lbys b, bys c, .lst (lvL ks)]
def lvL : List Tre → List AV
  | [] => []
  | t :: ts => t.lv :: lvL ts
end
theorem lvL_map : ∀ l : List Tre, lvL l = l.map Tre.lv
  | [] => by simp [lvL]
  | t :: ts => by simp [lvL, lvL_map ts]
def kidsL (ks : List Tre) : AV := .lst (ks.map Tre.lv)
theorem lv_eq (t : Tre) : t.lv = .agg [.int .i64 t.kind, lbys t.key, lbys t.value, bys t.digest, kidsL t.kids] := by
  cases t with
  | mk k a b c ks => simp [Tre.lv, lvL_map, kidsL, Tre.kind, Tre.key, Tre.value, Tre.digest, Tre.kids]
@[simp] theorem good_lv (t : Tre) : t.lv.good = true := by
  induction t using Tre.ind with
  | h t ih =>
    rw [lv_eq]
    simp only [AV.good, goodL, good_bys, good_lbys, Bool.true_and, kidsL, Bool.and_true]
    exact goodL_all.2 fun v hv => by
      obtain ⟨k, hk, rfl⟩ := List.mem_map.1 hv
      exact ih k hk
@[simp] theorem goodL_lv (l : List Tre) : goodL (l.map Tre.lv) = true := goodL_map good_lv l
@[simp] theorem good_kidsL (l : List Tre) : (kidsL l).good = true := goodL_lv l
@[simp] theorem er_bys (l : List UInt8) : er (bys l) = bys l := er_noL _ (noL_bys l)
theorem er_lv (t : Tre) : er t.lv = t.av := by
  induction t using Tre.ind with
  | h t ih =>
    rw [lv_eq, av_eq]
    simp only [er, erL, er_lbys, er_bys, kidsL, kidsA, erL_map, List.map_map]
    have e : t.kids.map (er ∘ Tre.lv) = t.kids.map Tre.av := List.map_congr_left fun k hk => ih k hk
    rw [e]
@[simp] theorem noL_tr (t : Tre) : t.av.noL = true := by
  induction t using Tre.ind with
  | h t ih =>
    rw [av_eq]
    simp only [AV.noL, noLL, noL_bys, Bool.true_and, kidsA, Bool.and_true]
    exact noLL_all.2 fun v hv => by
      obtain ⟨k, hk, rfl⟩ := List.mem_map.1 hv
      exact ih k hk
@[simp] theorem er_tr (t : Tre) : er t.av = t.av := er_noL _ (noL_tr t)
@[simp] theorem lenV_kidsL (l : List Tre) (H : List AObj) : lenV (kidsL l) H = some (.int .i64 l.length) := by simp [kidsL]
theorem cells_lv (t : Tre) : t.lv.cells = [.int .i64 t.kind, lbys t.key, lbys t.value, bys t.digest, kidsL t.kids] := by rw [lv_eq]; rfl
theorem ixA_kidsL {l : List Tre} {k : IntKind} {i : Nat} {t : Tre} {H : List AObj} (h : l[i]? = some t) : ixA 5 (kidsL l) (.int k i) H = some (.ip t.lv.cells) := by
  unfold kidsL
  exact ixA_lst (e := t.lv) (by omega) (by simp [h]) (by rw [cells_lv]; rfl)
@[simp] theorem loadA_lv (t : Tre) (H : List AObj) : loadA true 5 (.ip t.lv.cells) H = some t.lv := by
  rw [cells_lv, lv_eq]; rfl
@[simp] theorem new_lv {β : Type} (t : Tre) (H : List AObj) (K : AV → List AObj → List Nat → Option β) : newK t.lv H K = K (.ptr H.length 1 0 0) (H ++ [.row 5 [t.lv]]) [] := by
  have : newA t.lv H = some (.ptr H.length 1 0 0, H ++ [.row 5 [t.lv]], []) := by
    unfold newA; rw [if_pos (by rw [cells_lv]; exact ⟨by simp, rfl⟩), cells_lv]; rfl
  unfold newK; rw [this]; rfl
@[simp] theorem ld_lv0_k (t : Tre) (T : List AObj) : loadA false 1 (.ptr 0 1 0 0) (.row 5 [t.lv] :: T) = some (.int .i64 t.kind) := by rw [lv_eq t]; rfl
@[simp] theorem ld_lv1_k (t : Tre) {o0 : AObj} (T : List AObj) : loadA false 1 (.ptr 1 1 0 0) (o0 :: .row 5 [t.lv] :: T) = some (.int .i64 t.kind) := by rw [lv_eq t]; rfl
@[simp] theorem ld_lv0_a (t : Tre) (T : List AObj) : loadA false 1 (.ptr 0 1 0 1) (.row 5 [t.lv] :: T) = some (lbys t.key) := by rw [lv_eq t]; rfl
@[simp] theorem ld_lv1_a (t : Tre) {o0 : AObj} (T : List AObj) : loadA false 1 (.ptr 1 1 0 1) (o0 :: .row 5 [t.lv] :: T) = some (lbys t.key) := by rw [lv_eq t]; rfl
@[simp] theorem ld_lv0_b (t : Tre) (T : List AObj) : loadA false 1 (.ptr 0 1 0 2) (.row 5 [t.lv] :: T) = some (lbys t.value) := by rw [lv_eq t]; rfl
@[simp] theorem ld_lv1_b (t : Tre) {o0 : AObj} (T : List AObj) : loadA false 1 (.ptr 1 1 0 2) (o0 :: .row 5 [t.lv] :: T) = some (lbys t.value) := by rw [lv_eq t]; rfl
@[simp] theorem ld_lv0_c (t : Tre) (T : List AObj) : loadA false 1 (.ptr 0 1 0 3) (.row 5 [t.lv] :: T) = some (bys t.digest) := by rw [lv_eq t]; rfl
@[simp] theorem ld_lv1_c (t : Tre) {o0 : AObj} (T : List AObj) : loadA false 1 (.ptr 1 1 0 3) (o0 :: .row 5 [t.lv] :: T) = some (bys t.digest) := by rw [lv_eq t]; rfl
@[simp] theorem ld_lv0_s (t : Tre) (T : List AObj) : loadA false 1 (.ptr 0 1 0 4) (.row 5 [t.lv] :: T) = some (kidsL t.kids) := by rw [lv_eq t]; rfl
@[simp] theorem ld_lv1_s (t : Tre) {o0 : AObj} (T : List AObj) : loadA false 1 (.ptr 1 1 0 4) (o0 :: .row 5 [t.lv] :: T) = some (kidsL t.kids) := by rw [lv_eq t]; rfl
@[simp] theorem ld_lv0 (t : Tre) (T : List AObj) : loadA true 5 (.ptr 0 1 0 0) (.row 5 [t.lv] :: T) = some t.lv := by rw [lv_eq t]; rfl
@[simp] theorem ld_lv1 (t : Tre) {o0 : AObj} (T : List AObj) : loadA true 5 (.ptr 1 1 0 0) (o0 :: .row 5 [t.lv] :: T) = some t.lv := by rw [lv_eq t]; rfl
@[simp] theorem noL_err (n : Int) : (errA n).noL = true := by unfold errA; split <;> rfl
@[simp] theorem noL_code (n : Int) : (codeA n).noL = true := rfl
theorem noL_resT (o : Option (List UInt8)) : (resT o).noL = true := by cases o <;> simp [resT, AV.noL, noLL]
theorem noL_resD (p : Int × List UInt8) : (resD p).noL = true := by simp [resD, AV.noL, noLL]
theorem noL_resS (o : Option (List UInt8 × List UInt8)) : (resS o).noL = true := by cases o <;> simp [resS, AV.noL, noLL]
theorem noL_two (a b : List UInt8) : (AV.tup [bys a, bys b]).noL = true := by simp [AV.noL, noLL]
theorem Equal_l (a b : List UInt8) {H : List AObj} {K : AV → List AObj → List Nat → Option R3} : calXK (EV C) 12 n_bytes_Equal [lbys a, bys b] H K = K (.bool (decide (a = b))) H [] :=
  calXK_12g (by simp [goodL]) (by simp only [erL, er_lbys, er_bys]; exact Equal_ok a b) rfl
theorem Check_l (t : Tre) (ht : t.ok) {H : List AObj} {K : AV → List AObj → List Nat → Option R3} (hf : (errA (checkF t)).flat = true) : calXK (EV C) 12 n_tree_Check [t.lv] H K = K (errA (checkF t)) H [] :=
  calXK_12g (by simp [goodL]) (by simp only [erL, er_lv]; exact Check_ok t ht) hf
@[simp] theorem flat_err (n : Int) : (errA n).flat = true := by unfold errA; split <;> rfl
theorem Value_l (v : List UInt8) (h : v.length ≤ 2^45) : EV C n_digest_Value [lbys v] [] = some (bys (0 :: v), [], []) := by
  refine digest_Value_of ?_
  simp only []
  rw [raw0' 0 0 rfl, List.length_nil, List.nil_append, appB (n := 1) (es := [0]) (ys := v) (elemsA_lbys _ _) rfl rfl (by omega)]
  exact endB_frz (frz_row (z := 1) (es := (0 :: v).map u8) rfl (by simp; omega) (goodL_u8 _)) (good_bys _)
theorem Bytes_l (l : List UInt8) (h : l.length ≤ 247) : EV C n_coder_Bytes [lbys l] [] = some (bys (UInt8.ofNat l.length :: l), [], []) := by
  refine coder_Bytes_of ?_
  simp only [lenV_lbys, Option.bind_some, cvI_int, wrap_u64 (show l.length < 2^64 by omega)]
  rw [callK_raw (Number_ok l.length h [])]
  simp only [List.length_nil, List.nil_append]
  rw [appB (n := 1) (es := [UInt8.ofNat l.length]) (ys := l) (elemsA_lbys _ _) rfl rfl (by omega)]
  exact endB_frz (frz_row (z := 1) (es := (UInt8.ofNat l.length :: l).map u8) rfl (by simp; omega) (goodL_u8 _)) (good_bys _)
theorem Pair_l (w : Int) (hw : wOk w = true) (key v : List UInt8) (hk : key.length ≤ 247) (hv : (v.length : Int) = w) : EV C n_digest_Pair [.int .i64 w, lbys key, bys v] [] = some (.tup [bys (pairF key v), .nili], [], []) := by
  refine digest_Pair_of ?_
  simp only []
  have hw2 : decide (1 ≤ w ∧ w ≤ 32) = true := hw
  simp only [wOk, decide_eq_true_eq] at hw
  rw [callK_ok (by rfl) (width_ok w)]
  simp only [hw2, not_bool, Bool.not_true, Option.bind_some, splitK_f, lenV_bys, neq_int, hv, decide_true, condK_f]
  rw [lit0 1 1 rfl, callK_ok (by simp [goodL]) (Bytes_l key hk), lit3]
  rw [callK_ok (by simp) (Concat_byte_ok _ (by simp) (by simp; omega))]
  refine (endB_good (by simp)).trans ?_
  simp [pairF]
theorem told_l (w : Int) (hw : wOk w = true) (t : Tre) : t.ok → formedF t = true → EV C n_tree_told_l [.int .i64 w, t.lv] [] = some (resT (toldF w t), [], []) := by
  have hw' : 1 ≤ w ∧ w ≤ 32 := by simpa [wOk] using hw
  induction t using Tre.ind with
  | h t ih =>
    intro ht hf
    obtain ⟨ha, hb, hc, hk, hks⟩ := (ok_eq t).1 ht
    refine tree_told_l_of ?_
    simp only [List.length_nil, new_lv, new_tr, List.nil_append, offA_ptr, Option.bind_some, Nat.zero_add, Nat.add_zero, ld_lv0_k, eql_int, condK_dec]
    by_cases h0 : t.kind = 0
    · rw [if_pos h0, callK_ok rfl None_ok, callK_ok (by simp) (Of_ok w hw [3] (by simp)), told_none w t h0]
      simp only [extA_0, extA_1, Option.bind_some, resT]
      exact endB_good (by simp)
    · rw [if_neg h0]
      by_cases h3 : t.kind = 3
      · rw [if_pos h3, told_cut w t h3]
        simp only [ld_lv0_c, Option.bind_some, lenV_bys, neq_int]
        by_cases hd : (t.digest.length : Int) = w
        · simp only [hd, decide_true, Bool.not_true, condK_f, if_true]
          rw [callK_ok (by simp) (Clone_byte_ok _ (by omega))]
          exact endB_good (by simp)
        · simp only [hd, decide_false, Bool.not_false, condK_t, if_false]
          exact endE _ _
      · rw [if_neg h3]
        obtain ⟨hkk, hka, hva, l, r, hks2⟩ := formed_node hf h0 h3
        have hl : l ∈ t.kids := by rw [hks2]; simp
        have hr : r ∈ t.kids := by rw [hks2]; simp
        have il := ih l hl (hks l hl) (formed_kids hf l hl)
        have ir := ih r hr (hks r hr) (formed_kids hf r hr)
        have ll : ∀ {d}, toldF w l = some d → (d.length : Int) = w := fun h => told_len hw l (formed_kids hf l hl) h
        have lr : ∀ {d}, toldF w r = some d → (d.length : Int) = w := fun h => told_len hw r (formed_kids hf r hr) h
        have x0 : ∀ H, ixA 5 (kidsL t.kids) (.int .i64 0) H = some (.ip l.lv.cells) := fun H => ixA_kidsL (i := 0) (by rw [hks2]; rfl)
        have x1 : ∀ H, ixA 5 (kidsL t.kids) (.int .i64 1) H = some (.ip r.lv.cells) := fun H => ixA_kidsL (i := 1) (by rw [hks2]; rfl)
        rw [told_node w t l r h0 h3 hks2]
        simp only [ld_lv0_c, Option.bind_some]
        -- what stands behind the pair
        have rest : ((pv w t).length : Int) = w → ∀ (K : AV → List AObj → List Nat → Option R3), True := fun _ _ => trivial
        by_cases h1 : t.kind = 1
        · have hpv : pv w t = ofF w (0 :: t.value) := by simp [pv, h1]
          have hl1 : ((ofF w (0 :: t.value)).length : Int) = w := ofF_len hw _
          have hpl : ((ofF w (pairF t.key (ofF w (0 :: t.value)))).length : Int) = w := ofF_len hw _
          simp only [h1, if_true, ld_lv0_b, ld_lv0_a, ld_lv0_s, Option.bind_some]
          rw [callK_ok (by simp [goodL]) (Value_l t.value (by omega)), callK_ok (by simp) (Of_ok w hw (0 :: t.value) (by simp; omega))]
          simp only [extA_0, extA_1, Option.bind_some, neq_nil1, condK_f, ld_lv0_a, ld_lv0_s]
          rw [callK_ok (by simp [goodL]) (Pair_l w hw t.key _ (by omega) hl1)]
          simp only [extA_0, extA_1, Option.bind_some]
          rw [callK_ok (by simp) (tree_of_ok w hw _ (by rw [pairF_len]; omega))]
          simp only [extA_0, extA_1, Option.bind_some, neq_nil1, condK_f, ld_lv0_s, x0, loadA_lv, loadA_tr]
          rw [calXK_13g (g := n_tree_told) (by simp [goodL]) il (noL_resT _), hpv, if_pos hl1]
          cases hL : toldF w l with
          | none => simp only [resT, extA_0, extA_1, Option.bind_some, nq2, condK_t]; exact endE _ _
          | some x =>
            have hx := ll hL
            simp only [resT, extA_0, extA_1, Option.bind_some, neq_nil1, condK_f, ld_lv0_s, x1, loadA_lv, loadA_tr]
            rw [calXK_13g (g := n_tree_told) (by simp [goodL]) ir (noL_resT _)]
            cases hR : toldF w r with
            | none => simp only [resT, extA_0, extA_1, Option.bind_some, nq2, condK_t]; exact endE _ _
            | some y =>
              have hy := lr hR
              simp only [resT, extA_0, extA_1, Option.bind_some, neq_nil1, condK_f]
              rw [callK_ok (by simp) (Node_ok w hw x _ y hx hpl hy)]
              simp only [extA_0, extA_1, Option.bind_some]
              rw [callK_ok (by simp) (tree_of_ok w hw _ (by rw [nodeF_len]; omega))]
              simp only [extA_0, extA_1, Option.bind_some]
              exact endB_good (by simp)
        · have h2 : t.kind = 2 := by omega
          have hpv : pv w t = t.digest := by simp [pv, h1]
          simp only [h1, if_false, ld_lv0_a, ld_lv0_s, Option.bind_some]
          rw [hpv]
          by_cases hl1 : (t.digest.length : Int) = w
          · have hpl : ((ofF w (pairF t.key t.digest)).length : Int) = w := ofF_len hw _
            rw [callK_ok (by simp [goodL]) (Pair_l w hw t.key _ (by omega) hl1)]
            simp only [extA_0, extA_1, Option.bind_some]
            rw [callK_ok (by simp) (tree_of_ok w hw _ (by rw [pairF_len]; omega))]
            simp only [extA_0, extA_1, Option.bind_some, neq_nil1, condK_f, ld_lv0_s, x0, loadA_lv, loadA_tr]
            rw [calXK_13g (g := n_tree_told) (by simp [goodL]) il (noL_resT _), if_pos hl1]
            cases hL : toldF w l with
            | none => simp only [resT, extA_0, extA_1, Option.bind_some, nq2, condK_t]; exact endE _ _
            | some x =>
              have hx := ll hL
              simp only [resT, extA_0, extA_1, Option.bind_some, neq_nil1, condK_f, ld_lv0_s, x1, loadA_lv, loadA_tr]
              rw [calXK_13g (g := n_tree_told) (by simp [goodL]) ir (noL_resT _)]
              cases hR : toldF w r with
              | none => simp only [resT, extA_0, extA_1, Option.bind_some, nq2, condK_t]; exact endE _ _
              | some y =>
                have hy := lr hR
                simp only [resT, extA_0, extA_1, Option.bind_some, neq_nil1, condK_f]
                rw [callK_ok (by simp) (Node_ok w hw x _ y hx hpl hy)]
                simp only [extA_0, extA_1, Option.bind_some]
                rw [callK_ok (by simp) (tree_of_ok w hw _ (by rw [nodeF_len]; omega))]
                simp only [extA_0, extA_1, Option.bind_some]
                exact endB_good (by simp)
          · rw [callK_ok (by simp [goodL]) (Pair_bad w _ t.digest hl1), if_neg hl1]
            simp only [extA_0, extA_1, Option.bind_some]
            rw [callK_ok (args := [.int .i64 w, .lst [], codeA 1]) (by simp) (tree_of_bad w _ 1)]
            simp only [extA_0, extA_1, Option.bind_some, nq2, condK_t]
            exact endE _ _
theorem Digest_l (w : Int) (t : Tre) (ht : t.ok) : EV C n_tree_Digest_l [.int .i64 w, t.lv] [] = some (resD (digF w t), [], []) := by
  refine tree_Digest_l_of ?_
  simp only [List.length_nil, new_lv, new_tr, List.nil_append, lss_int, gtr_int, Option.bind_some, splitK_dec, condK_dec]
  split
  · have hw : wOk w = false := by simp only [wOk, decide_eq_false_iff_not]; omega
    simp only [digF, hw, if_true]
    exact endE _ _
  · split
    · have hw : wOk w = false := by simp only [wOk, decide_eq_false_iff_not]; omega
      simp only [digF, hw, if_true]
      exact endE _ _
    · have hw : wOk w = true := by simp only [wOk, decide_eq_true_eq]; omega
      simp only [ld_lv0, Option.bind_some]
      rw [Check_l t ht (flat_err _)]
      by_cases hc : checkF t = 0
      · simp only [hc, errA, if_true, neq_nil1, Option.bind_some, condK_f, ld_lv0]
        rw [calXK_13g (g := n_tree_told) (by simp [goodL]) (told_l w hw t ht (check_formed hc)) (noL_resT _)]
        simp only [digF, hw, hc, Bool.true_eq_false, if_false, if_true]
        cases toldF w t with
        | some d => simp only [resT, extA_0, extA_1, Option.bind_some]; exact endB_good (by simp)
        | none => simp only [resT, extA_0, extA_1, Option.bind_some]; exact endB_good (by simp)
      · rw [errA_ne hc]
        simp only [nq2, Option.bind_some, condK_t, digF, hw, hc, Bool.true_eq_false, if_false, resD, errA_ne hc]
        exact endE _ _
theorem parts_l (w : Int) (hw : wOk w = true) (t : Tre) (h : Gd w t) (h3 : t.kind ≠ 3) : EV C n_clash_parts_l [.int .i64 w, t.lv] [] = some (.tup [bys (ownF w t), bys (pairP w t)], [], []) := by
  have hw' : 1 ≤ w ∧ w ≤ 32 := by simpa [wOk] using hw
  refine clash_parts_l_of ?_
  simp only [List.length_nil, new_lv, new_tr, List.nil_append, offA_ptr, Option.bind_some, Nat.zero_add, Nat.add_zero, ld_lv0_k, eql_int, condK_dec]
  by_cases h0 : t.kind = 0
  · rw [if_pos h0, callK_ok rfl None_ok]
    refine endB_frz (u := .tup [bys (ownF w t), bys (pairP w t)]) ?_ (by simp)
    simp only [ownF, pairP, h0, if_true]
    exact frz_tup (frzL_cons (frz_good _ _ (good_bys _)) rfl)
  · rw [if_neg h0]
    obtain ⟨l, r, nd⟩ := h.node h0 h3
    have x0 : ∀ H, ixA 5 (kidsL t.kids) (.int .i64 0) H = some (.ip l.lv.cells) := fun H => ixA_kidsL (i := 0) (by rw [nd.kids]; rfl)
    have x1 : ∀ H, ixA 5 (kidsL t.kids) (.int .i64 1) H = some (.ip r.lv.cells) := fun H => ixA_kidsL (i := 1) (by rw [nd.kids]; rfl)
    have hl := nd.gl.len hw
    have hr := nd.gr.len hw
    have hpl : ((ofF w (pairF t.key (pv w t))).length : Int) = w := ofF_len hw _
    have hpv := nd.pv
    have Dl := Digest_l w l nd.gl.ok
    have Dr := Digest_l w r nd.gr.ok
    rw [nd.gl.dig hw] at Dl
    rw [nd.gr.dig hw] at Dr
    have ee : errA 0 = .nili := rfl
    simp only [resD, ee] at Dl Dr
    have hk := nd.key
    have hv := nd.value
    rw [nd.own, nd.pair]
    simp only [ld_lv0_c, Option.bind_some]
    by_cases h1 : t.kind = 1
    · have hpv2 : pv w t = ofF w (0 :: t.value) := by simp [pv, h1]
      rw [hpv2] at hpv hpl ⊢
      simp only [h1, if_true, ld_lv0_b, ld_lv0_a, ld_lv0_s, Option.bind_some]
      rw [callK_ok (by simp [goodL]) (Value_l t.value (by omega)), callK_ok (by simp) (Of_ok w hw (0 :: t.value) (by simp; omega))]
      simp only [extA_0, extA_1, Option.bind_some, neq_nil1, condK_f, ld_lv0_a, ld_lv0_s]
      rw [callK_ok (by simp [goodL]) (Pair_l w hw t.key _ (by omega) hpv)]
      simp only [extA_0, extA_1, Option.bind_some, neq_nil1, condK_f]
      rw [callK_ok (by simp) (Of_ok w hw _ (by rw [pairF_len]; omega))]
      simp only [extA_0, extA_1, Option.bind_some, neq_nil1, condK_f, ld_lv0_s, x0, loadA_lv, loadA_tr]
      rw [calXK_13g (g := n_tree_Digest) (by simp [goodL]) Dl (noL_resD (0, _))]
      simp only [extA_0, extA_1, Option.bind_some, neq_nil1, condK_f, ld_lv0_s, x1, loadA_lv, loadA_tr]
      rw [calXK_13g (g := n_tree_Digest) (by simp [goodL]) Dr (noL_resD (0, _))]
      simp only [extA_0, extA_1, Option.bind_some, neq_nil1, condK_f]
      rw [callK_ok (by simp) (Node_ok w hw _ _ _ hl hpl hr)]
      simp only [extA_0, extA_1, Option.bind_some, neq_nil1, condK_f]
      exact endB_good (by simp)
    · have hpv2 : pv w t = t.digest := by simp [pv, h1]
      rw [hpv2] at hpv hpl ⊢
      simp only [h1, if_false, ld_lv0_a, ld_lv0_s, Option.bind_some]
      rw [callK_ok (by simp [goodL]) (Pair_l w hw t.key _ (by omega) hpv)]
      simp only [extA_0, extA_1, Option.bind_some, neq_nil1, condK_f]
      rw [callK_ok (by simp) (Of_ok w hw _ (by rw [pairF_len]; omega))]
      simp only [extA_0, extA_1, Option.bind_some, neq_nil1, condK_f, ld_lv0_s, x0, loadA_lv, loadA_tr]
      rw [calXK_13g (g := n_tree_Digest) (by simp [goodL]) Dl (noL_resD (0, _))]
      simp only [extA_0, extA_1, Option.bind_some, neq_nil1, condK_f, ld_lv0_s, x1, loadA_lv, loadA_tr]
      rw [calXK_13g (g := n_tree_Digest) (by simp [goodL]) Dr (noL_resD (0, _))]
      simp only [extA_0, extA_1, Option.bind_some, neq_nil1, condK_f]
      rw [callK_ok (by simp) (Node_ok w hw _ _ _ hl hpl hr)]
      simp only [extA_0, extA_1, Option.bind_some, neq_nil1, condK_f]
      exact endB_good (by simp)
theorem search_l (w : Int) (hw : wOk w = true) (p : Tre) : ∀ q, Gd w p → Gd w q → EV C n_clash_search_l [.int .i64 w, p.lv, q.av] [] = some (resS (searchF w p q), [], []) := by
  induction p using Tre.ind with
  | h p ih =>
    intro q hp hq
    refine clash_search_l_of ?_
    simp only [List.length_nil, new_lv, new_tr, List.nil_append, List.length_singleton, List.cons_append, offA_ptr, Option.bind_some, Nat.zero_add, Nat.add_zero, ld_lv0_k, ld_tr1_k, ld_lv0, ld_tr1, eql_int, splitK_dec, condK_dec]
    rw [searchF_eq]
    split
    · rename_i h; rw [if_pos (.inl h)]; exact endN _ _
    · rename_i hp3
      split
      · rename_i h; rw [if_pos (.inr h)]; exact endN _ _
      · rename_i hq3
        rw [if_neg (by omega)]
        rw [calXK_13g (g := n_clash_parts) (by simp [goodL]) (parts_l w hw p hp hp3) (noL_two _ _)]
        simp only [extA_0, extA_1, Option.bind_some, ld_tr1]
        rw [callK_ok (by simp) (parts_ok w hw q hq hq3)]
        simp only [extA_0, extA_1, Option.bind_some]
        rw [callK_ok (by simp) (Equal_ok _ _)]
        by_cases ho : ownF w p = ownF w q
        · simp only [ho, decide_true, not_bool, Bool.not_true, Option.bind_some, condK_f, ne_eq, not_true_eq_false, if_false, ld_lv0_k, eql_int, condK_dec]
          split
          · exact endN _ _
          · rename_i hp0
            rw [callK_ok (by simp) (Equal_ok _ _)]
            by_cases hpp : pairP w p = pairP w q
            · obtain ⟨l, r, np⟩ := hp.node hp0 hp3
              obtain ⟨l', r', nq⟩ := own_node np hq hq3 ho
              have hv1 := np.value
              have hv2 := nq.value
              have x0 : ∀ H, ixA 5 (kidsL p.kids) (.int .i64 0) H = some (.ip l.lv.cells) := fun H => ixA_kidsL (i := 0) (by rw [np.kids]; rfl)
              have x1 : ∀ H, ixA 5 (kidsL p.kids) (.int .i64 1) H = some (.ip r.lv.cells) := fun H => ixA_kidsL (i := 1) (by rw [np.kids]; rfl)
              have y0 : ∀ H, ixA 5 (kidsA q.kids) (.int .i64 0) H = some (.ip l'.av.cells) := fun H => ixA_kids (i := 0) (by rw [nq.kids]; rfl)
              have y1 : ∀ H, ixA 5 (kidsA q.kids) (.int .i64 1) H = some (.ip r'.av.cells) := fun H => ixA_kids (i := 1) (by rw [nq.kids]; rfl)
              have il := ih l (by rw [np.kids]; simp) l' np.gl nq.gl
              have ir := ih r (by rw [np.kids]; simp) r' np.gr nq.gr
              have loop : ∀ E, clash_search_l_J14 0 (.int .i64 w) (.ptr 0 1 0 0) (.ptr 1 1 0 0) (.int .i64 ((p.kids.length : Nat) : Int)) (.int .i64 0) [.row 5 [p.lv], .row 5 [q.av]] E = some (resS (searchL w p.kids q.kids), [], []) := fun E => by
                have e2 : ((p.kids.length : Nat) : Int) = 2 := by rw [np.kids]; rfl
                have w1 : IntKind.i64.wrap (0 + 1) = 1 := by decide
                have w2 : IntKind.i64.wrap (1 + 1) = 2 := by decide
                refine clash_search_l_J14_of ?_
                simp only [e2, lss_int, show ((0 : Int) < 2) from by decide, decide_true, Option.bind_some, condK_t, offA_ptr, Nat.zero_add, ld_lv0_s, ld_tr1_s, x0, y0, loadA_lv, loadA_tr]
                rw [calXK_13g (g := n_clash_search) (by simp [goodL]) il (noL_resS _)]
                have e3 : searchL w p.kids q.kids = (match searchF w l l' with | some r => some r | none => match searchF w r r' with | some r => some r | none => none) := by
                  rw [np.kids, nq.kids, searchL]
                  cases searchF w l l' with
                  | some x => rfl
                  | none =>
                    simp only [searchL]
                    cases searchF w r r' <;> rfl
                rw [e3]
                cases searchF w l l' with
                | some x =>
                  obtain ⟨a, b⟩ := x
                  simp only [resS, extA_0, extA_1, extA_2, Option.bind_some, condK_t]
                  exact endB_good (by simp)
                | none =>
                  simp only [resS, extA_0, extA_1, extA_2, Option.bind_some, condK_f, add_int, w1]
                  refine clash_search_l_J14_of ?_
                  simp only [lss_int, show ((1 : Int) < 2) from by decide, decide_true, Option.bind_some, condK_t, offA_ptr, Nat.zero_add, ld_lv0_s, ld_tr1_s, x1, y1, loadA_lv, loadA_tr]
                  rw [calXK_13g (g := n_clash_search) (by simp [goodL]) ir (noL_resS _)]
                  cases searchF w r r' with
                  | some x =>
                    obtain ⟨a, b⟩ := x
                    simp only [resS, extA_0, extA_1, extA_2, Option.bind_some, condK_t]
                    exact endB_good (by simp)
                  | none =>
                    simp only [resS, extA_0, extA_1, extA_2, Option.bind_some, condK_f, add_int, w2]
                    refine clash_search_l_J14_of ?_
                    simp only [lss_int, Int.lt_irrefl, decide_false, Option.bind_some, condK_f]
                    exact endN _ _
              simp only [hpp, decide_true, not_bool, Bool.not_true, Option.bind_some, condK_f, not_true_eq_false, if_false, ld_lv0_k, ld_tr1_k, ld_lv0_b, ld_tr1_b, ld_lv0_s, eql_int, splitK_dec, lenV_kidsL, lenV_kids]
              by_cases hk1 : p.kind = 1
              · by_cases hk2 : q.kind = 1
                · simp only [hk1, hk2, if_true, true_and]
                  rw [Equal_l _ _]
                  by_cases hvv : p.value = q.value
                  · simp only [hvv, decide_true, not_bool, Bool.not_true, Option.bind_some, condK_f, not_true_eq_false, if_false, ld_lv0_s, lenV_kidsL, lenV_kids]
                    exact loop _
                  · simp only [hvv, decide_false, not_bool, Bool.not_false, Option.bind_some, condK_t, not_false_eq_true, if_true, ld_lv0_b, ld_tr1_b]
                    rw [callD_ok (env := EV C) (by simp [goodL]) (Value_l p.value (by omega)), callD_ok (env := EV C) (by simp) (Value_ok q.value (by omega))]
                    simp only [Option.bind_some]
                    exact endB_good (by simp)
                · simp only [hk1, hk2, if_true, if_false, false_and, and_false]
                  exact loop _
              · simp only [hk1, if_false, false_and]
                exact loop _
            · simp only [hpp, decide_false, not_bool, Bool.not_false, Option.bind_some, condK_t, not_false_eq_true, if_true]
              exact endB_good (by simp)
        · simp only [ho, decide_false, not_bool, Bool.not_false, Option.bind_some, condK_t, ne_eq, not_false_eq_true, if_true]
          exact endB_good (by simp)
theorem Find_l (w : Int) (p q : Tre) (hp : p.ok) (hq : q.ok) : EV C n_clash_Find_l [.int .i64 w, p.lv, q.av] [] = some (resFd (findF w p q), [], []) := by
  refine clash_Find_l_of ?_
  simp only [List.length_nil, new_lv, new_tr, List.nil_append, List.length_singleton, List.cons_append, Option.bind_some, ld_lv0, ld_tr1]
  rw [calXK_13g (g := n_tree_Digest) (by simp [goodL]) (Digest_l w p hp) (noL_resD _)]
  unfold findF
  by_cases e1 : (digF w p).1 = 0
  · simp only [resD, extA_0, extA_1, Option.bind_some, neqE0, e1, decide_true, Bool.not_true, condK_f, ne_eq, not_true_eq_false, if_false, ld_tr1]
    rw [callK_ok (by simp) (Digest_ok w q hq)]
    by_cases e2 : (digF w q).1 = 0
    · simp only [resD, extA_0, extA_1, Option.bind_some, neqE0, e2, decide_true, Bool.not_true, condK_f, not_true_eq_false, if_false]
      rw [callK_ok (by simp) (Equal_ok _ _)]
      obtain ⟨hw, gp, dp⟩ := gd_of hp e1
      obtain ⟨_, gq, dq⟩ := gd_of hq e2
      by_cases hd : (digF w p).2 = (digF w q).2
      · simp only [hd, decide_true, not_bool, Bool.not_true, Option.bind_some, condK_f, not_true_eq_false, if_false, ld_lv0, ld_tr1]
        rw [calXK_13g (g := n_clash_search) (by simp [goodL]) (search_l w hw p q gp gq) (noL_resS _)]
        cases searchF w p q with
        | none =>
          simp only [resS, extA_0, extA_1, extA_2, Option.bind_some, not_bool, Bool.not_false, condK_t]
          exact endF 9 _ _
        | some x =>
          obtain ⟨a, b⟩ := x
          simp only [resS, extA_0, extA_1, extA_2, Option.bind_some, not_bool, Bool.not_true, condK_f]
          exact endB_good (v := resFd (0, a, b)) (by simp)
      · simp only [hd, decide_false, not_bool, Bool.not_false, Option.bind_some, condK_t, not_false_eq_true, if_true]
        exact endF 6 _ _
    · simp only [resD, extA_0, extA_1, Option.bind_some, neqE0, e2, decide_false, Bool.not_false, condK_t, not_false_eq_true, if_true]
      exact endF _ _ _
  · simp only [resD, extA_0, extA_1, Option.bind_some, neqE0, e1, decide_false, Bool.not_false, condK_t, ne_eq, not_false_eq_true, if_true]
    exact endF _ _ _
end Go.Pm
