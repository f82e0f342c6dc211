/- A part of the proof: what the functions of the program answer, as plain lists and numbers. -/
import Derived.Test.YtclfnechcblmoaaDoorP21
namespace Go.Pm
open Go.Proofs
set_option linter.unusedVariables false
set_option linter.unusedSimpArgs false
def wide (t : Tre) (l : Int) : Bool := decide (l < 0) || (decide (l < (t.kids.length : Int)) || (decide (3000 < t.key.length) || (decide (3000 < t.value.length) || decide (3000 < t.digest.length))))
mutual
def lightF : Tre → Int → Int → Int
  | .mk k a b c ks, l, d => if d = 0 then -1 else if wide (.mk k a b c ks) (l - 1) = true then -1 else lightL ks (l - 1) d
def lightL : List Tre → Int → Int → Int
  | [], l, _ => l
  | t :: ts, l, d => if lightF t l (d - 1) < 0 then -1 else lightL ts (lightF t l (d - 1)) d
end
theorem lightF_eq (t : Tre) (l d : Int) : lightF t l d = if d = 0 then -1 else if wide t (l - 1) = true then -1 else lightL t.kids (l - 1) d := by
  cases t with | mk k a b c ks => rw [lightF]; rfl
theorem lightL_le {d : Int} : ∀ (ks : List Tre), (∀ t ∈ ks, ∀ l d, lightF t l d ≤ max l (-1)) → ∀ l, lightL ks l d ≤ max l (-1)
  | [], _, l => by rw [lightL]; omega
  | t :: ts, h, l => by
    rw [lightL]
    split
    · omega
    · have h1 := h t (by simp) l (d - 1)
      have := lightL_le (d := d) ts (fun k hk => h k (List.mem_cons_of_mem _ hk)) (lightF t l (d - 1))
      omega
theorem lightF_le (t : Tre) : ∀ l d, lightF t l d ≤ max l (-1) := by
  induction t using Tre.ind with
  | h t ih =>
    intro l d
    rw [lightF_eq]
    split
    · omega
    · split
      · omega
      · have := lightL_le (d := d) t.kids ih (l - 1)
        omega
theorem light_loop (t : Tre) (d : Int) (hd : 0 < d ∧ d < 2^60) (hk : t.kids.length ≤ 2^50) (ih : ∀ k ∈ t.kids, ∀ l d : Int, -2^60 < l → l < 2^60 → 0 ≤ d → d < 2^60 → EV C n_ref04_Light [k.av, .int .i64 l, .int .i64 d] [] = some (.int .i64 (lightF k l d), [], [])) : ∀ (m i : Nat) (l : Int) (E : List Nat), i + m = t.kids.length → -1 ≤ l → l < 2^60 →
    ref04_Light_J5 0 (.int .i64 l) (.int .i64 d) (.ptr 0 1 0 0) (.int .i64 (i : Int)) [.row 5 [t.av]] E = some (.int .i64 (lightL (t.kids.drop i) l d), [], [])
  | 0, i, l, E, h, hl, hu => by
    refine ref04_Light_J5_of ?_
    have e1 : ¬ ((i : Int) < (t.kids.length : Int)) := by omega
    have e2 : t.kids.drop i = [] := List.drop_eq_nil_of_le (by omega)
    simp only [offA_ptr, Option.bind_some, Nat.zero_add, ld_tr0_s, lenV_kids, lss_int, e1, decide_false, condK_f, e2, lightL]
    exact endB_good rfl
  | m + 1, i, l, E, h, hl, hu => by
    refine ref04_Light_J5_of ?_
    have hi : i < t.kids.length := by omega
    have e1 : ((i : Int) < (t.kids.length : Int)) := by omega
    have e2 : t.kids.drop i = t.kids[i] :: t.kids.drop (i + 1) := List.drop_eq_getElem_cons hi
    have e3 : IntKind.i64.wrap ((i : Int) + 1) = ((i + 1 : Nat) : Int) := w64 (by omega) (by omega)
    have e4 : IntKind.i64.wrap (d - 1) = d - 1 := by rw [wrap64] <;> omega
    simp only [offA_ptr, Option.bind_some, Nat.zero_add, ld_tr0_s, lenV_kids, lss_int, e1, decide_true, condK_t, e2, lightL, ixA_kids (List.getElem?_eq_getElem hi), loadA_tr, sub_int, e4]
    rw [callK_ok (by simp) (ih t.kids[i] (List.getElem_mem hi) l (d - 1) (by omega) hu (by omega) (by omega))]
    simp only [lss_int, Option.bind_some, condK_dec]
    split
    · exact endB_good rfl
    · simp only [add_int, e3, Option.bind_some]
      have := lightF_le t.kids[i] l (d - 1)
      exact light_loop t d hd hk ih m (i + 1) _ _ (by omega) (by omega) (by omega)
theorem Light_ok (t : Tre) : t.ok → ∀ l d : Int, -2^60 < l → l < 2^60 → 0 ≤ d → d < 2^60 → EV C n_ref04_Light [t.av, .int .i64 l, .int .i64 d] [] = some (.int .i64 (lightF t l d), [], []) := by
  induction t using Tre.ind with
  | h t ih =>
    intro ht l d hl hu hd hd2
    obtain ⟨ha, hb, hc, hk, hks⟩ := (ok_eq t).1 ht
    refine ref04_Light_of ?_
    have e4 : IntKind.i64.wrap (l - 1) = l - 1 := by rw [wrap64] <;> omega
    simp only [List.length_nil, new_tr, List.nil_append, sub_int, e4, Option.bind_some, eql_int, splitK_dec, lss_int, gtr_int, offA_ptr, Nat.zero_add, ld_tr0_a, ld_tr0_b, ld_tr0_c, ld_tr0_s, lenV_kids, lenV_bys, condK_dec]
    rw [lightF_eq]
    split
    · exact endB_good rfl
    · have bad : wide t (l - 1) = true → ∀ (H : List AObj) (E : List Nat), endB false false 0 (.int .i64 (-1)) H E = some (.int .i64 (if wide t (l - 1) = true then -1 else lightL t.kids (l - 1) d), [], []) := fun h H E => by
        rw [if_pos h]; exact endB_good rfl
      split
      · exact bad (by simp only [wide, Bool.or_eq_true, decide_eq_true_eq]; omega) _ _
      · split
        · exact bad (by simp only [wide, Bool.or_eq_true, decide_eq_true_eq]; omega) _ _
        · split
          · exact bad (by simp only [wide, Bool.or_eq_true, decide_eq_true_eq]; omega) _ _
          · split
            · exact bad (by simp only [wide, Bool.or_eq_true, decide_eq_true_eq]; omega) _ _
            · split
              · exact bad (by simp only [wide, Bool.or_eq_true, decide_eq_true_eq]; omega) _ _
              · have hw : ¬ wide t (l - 1) = true := by simp only [wide, Bool.or_eq_true, decide_eq_true_eq]; omega
                rw [if_neg hw]
                exact light_loop t d (by omega) hk (fun k hk => ih k hk (hks k hk)) t.kids.length 0 (l - 1) _ (by omega) (by omega) (by omega)
def smallF (t : Tre) : Bool := decide (0 ≤ lightF t 200 100)
theorem small_ok (t : Tre) (ht : t.ok) : EV C n_law09_small [t.av] [] = some (.bool (smallF t), [], []) := by
  refine law09_small_of ?_
  simp only [List.length_nil, new_tr, List.nil_append, ld_tr0, Option.bind_some]
  rw [callK_ok (by simp) (Light_ok t ht 200 100 (by decide) (by decide) (by decide) (by decide))]
  simp only [geq_int, Option.bind_some]
  exact endB_good rfl
theorem deep_mono (t : Tre) : ∀ {m n : Int}, m ≤ n → deepF t m = false → deepF t n = false := by
  induction t using Tre.ind with
  | h t ih =>
    intro m n hmn h
    rw [deepF_eq, Bool.or_eq_false_iff] at h ⊢
    refine ⟨?_, ?_⟩
    · have := h.1
      rw [Bool.and_eq_false_iff] at this ⊢
      rcases this with h1 | h1
      · exact .inl h1
      · right; simp only [decide_eq_false_iff_not] at h1 ⊢; omega
    · have h2 := h.2
      rw [List.any_eq_false] at h2 ⊢
      intro k hk
      have := h2 k hk
      simp only [Bool.not_eq_true] at this ⊢
      exact ih k hk (m := m - 1) (by omega) this
structure Gd (w : Int) (t : Tre) : Prop where
  ok : t.ok
  formed : formedF t = true
  deep : deepF t 64 = false
  told : (toldF w t).isSome = true
def dg (w : Int) (t : Tre) : List UInt8 := (toldF w t).getD []
theorem Gd.dgs {w : Int} {t : Tre} (h : Gd w t) : toldF w t = some (dg w t) := by
  have := h.told
  unfold dg
  cases hx : toldF w t with
  | none => rw [hx] at this; cases this
  | some d => rfl
theorem Gd.len {w : Int} {t : Tre} (h : Gd w t) (hw : wOk w = true) : ((dg w t).length : Int) = w := told_len hw t h.formed h.dgs
theorem Gd.check {w : Int} {t : Tre} (h : Gd w t) : checkF t = 0 := by simp [checkF, h.deep, h.formed]
theorem Gd.dig {w : Int} {t : Tre} (h : Gd w t) (hw : wOk w = true) : digF w t = (0, dg w t) := by
  simp [digF, hw, h.check, h.dgs]
theorem gd_of {w : Int} {t : Tre} (ht : t.ok) (h : (digF w t).1 = 0) : wOk w = true ∧ Gd w t ∧ (digF w t).2 = dg w t := by
  unfold digF at h ⊢
  cases hw : wOk w with
  | false => simp [hw] at h
  | true =>
    simp only [hw, Bool.true_eq_false, if_false] at h ⊢
    by_cases hc : checkF t = 0
    · simp only [hc, if_true] at h ⊢
      cases ht2 : toldF w t with
      | none => simp [ht2] at h
      | some d =>
        have hf := check_formed hc
        refine ⟨trivial, ⟨ht, hf, ?_, by simp [ht2]⟩, by simp [dg, ht2]⟩
        cases hd : deepF t 64 with
        | false => rfl
        | true => simp [checkF, hd] at hc
    · simp [hc] at h
structure Nd (w : Int) (t l r : Tre) : Prop where
  kind : t.kind = 1 ∨ t.kind = 2
  key : t.key.length ≤ 80
  value : t.value.length ≤ 1024
  kids : t.kids = [l, r]
  pv : ((pv w t).length : Int) = w
  gl : Gd w l
  gr : Gd w r
  dg : dg w t = ofF w (nodeF (dg w l) (ofF w (pairF t.key (Go.Pm.pv w t))) (dg w r))
theorem Gd.node {w : Int} {t : Tre} (h : Gd w t) (h0 : t.kind ≠ 0) (h3 : t.kind ≠ 3) : ∃ l r, Nd w t l r := by
  obtain ⟨hkk, hka, hva, l, r, hk⟩ := formed_node h.formed h0 h3
  have ht := h.dgs
  rw [told_node w t l r h0 h3 hk] at ht
  have hpv : ((pv w t).length : Int) = w := by
    by_cases hp : ((pv w t).length : Int) = w
    · exact hp
    · rw [if_neg hp] at ht; cases ht
  rw [if_pos hpv] at ht
  have hl : l ∈ t.kids := by rw [hk]; simp
  have hr : r ∈ t.kids := by rw [hk]; simp
  have hok := ((ok_eq t).1 h.ok).2.2.2.2
  have hdk : ∀ k ∈ t.kids, deepF k 64 = false := fun k hk => by
    have := h.deep
    rw [deepF_eq, Bool.or_eq_false_iff, List.any_eq_false] at this
    have := this.2 k hk
    simp only [Bool.not_eq_true] at this
    exact deep_mono k (by omega) this
  cases hL : toldF w l with
  | none => rw [hL] at ht; cases ht
  | some x =>
    cases hR : toldF w r with
    | none => rw [hL, hR] at ht; cases ht
    | some y =>
      rw [hL, hR] at ht
      simp only [Option.some.injEq] at ht
      exact ⟨l, r, hkk, hka, hva, hk, hpv, ⟨hok l hl, formed_kids h.formed l hl, hdk l hl, by simp [hL]⟩, ⟨hok r hr, formed_kids h.formed r hr, hdk r hr, by simp [hR]⟩, by rw [← ht]; simp [dg, hL, hR]⟩
def ownF (w : Int) (t : Tre) : List UInt8 := if t.kind = 0 then [3] else match t.kids with
  | [l, r] => nodeF (dg w l) (ofF w (pairF t.key (pv w t))) (dg w r)
  | _ => []
def pairP (w : Int) (t : Tre) : List UInt8 := if t.kind = 0 then [] else pairF t.key (pv w t)
theorem Nd.own {w : Int} {t l r : Tre} (h : Nd w t l r) : ownF w t = nodeF (Go.Pm.dg w l) (ofF w (pairF t.key (Go.Pm.pv w t))) (Go.Pm.dg w r) := by
  have h0 : t.kind ≠ 0 := by rcases h.kind with e | e <;> omega
  unfold ownF; rw [if_neg h0, h.kids]
theorem Nd.pair {w : Int} {t l r : Tre} (h : Nd w t l r) : pairP w t = pairF t.key (Go.Pm.pv w t) := by
  have h0 : t.kind ≠ 0 := by rcases h.kind with e | e <;> omega
  unfold pairP; rw [if_neg h0]
theorem parts_ok (w : Int) (hw : wOk w = true) (t : Tre) (h : Gd w t) (h3 : t.kind ≠ 3) : EV C n_clash_parts [.int .i64 w, t.av] [] = some (.tup [bys (ownF w t), bys (pairP w t)], [], []) := by
  have hw' : 1 ≤ w ∧ w ≤ 32 := by simpa [wOk] using hw
  refine clash_parts_of ?_
  simp only [List.length_nil, new_tr, List.nil_append, offA_ptr, Option.bind_some, Nat.zero_add, Nat.add_zero, ld_tr0_k, eql_int, condK_dec]
  by_cases h0 : t.kind = 0
  · rw [if_pos h0, callK_ok rfl None_ok]
    refine endB_frz (u := .tup [bys (ownF w t), bys (pairP w t)]) ?_ (by simp)
    simp only [ownF, pairP, h0, if_true]
    exact frz_tup (frzL_cons (frz_good _ _ (good_bys _)) rfl)
  · rw [if_neg h0]
    obtain ⟨l, r, nd⟩ := h.node h0 h3
    have x0 : ∀ H, ixA 5 (kidsA t.kids) (.int .i64 0) H = some (.ip l.av.cells) := fun H => ixA_kids (i := 0) (by rw [nd.kids]; rfl)
    have x1 : ∀ H, ixA 5 (kidsA t.kids) (.int .i64 1) H = some (.ip r.av.cells) := fun H => ixA_kids (i := 1) (by rw [nd.kids]; rfl)
    have hl := nd.gl.len hw
    have hr := nd.gr.len hw
    have hpl : ((ofF w (pairF t.key (pv w t))).length : Int) = w := ofF_len hw _
    have hpv := nd.pv
    have Dl := Digest_ok w l nd.gl.ok
    have Dr := Digest_ok w r nd.gr.ok
    rw [nd.gl.dig hw] at Dl
    rw [nd.gr.dig hw] at Dr
    have ee : errA 0 = .nili := rfl
    simp only [resD, ee] at Dl Dr
    have hk := nd.key
    have hv := nd.value
    rw [nd.own, nd.pair]
    simp only [ld_tr0_c, Option.bind_some]
    by_cases h1 : t.kind = 1
    · have hpv2 : pv w t = ofF w (0 :: t.value) := by simp [pv, h1]
      rw [hpv2] at hpv hpl ⊢
      simp only [h1, if_true, ld_tr0_b, ld_tr0_a, ld_tr0_s, Option.bind_some]
      rw [callK_ok (by simp) (Value_ok t.value (by omega)), callK_ok (by simp) (Of_ok w hw (0 :: t.value) (by simp; omega))]
      simp only [extA_0, extA_1, Option.bind_some, neq_nil1, condK_f, ld_tr0_a, ld_tr0_s]
      rw [callK_ok (by simp) (Pair_ok w hw t.key _ (by omega) hpv)]
      simp only [extA_0, extA_1, Option.bind_some, neq_nil1, condK_f]
      rw [callK_ok (by simp) (Of_ok w hw _ (by rw [pairF_len]; omega))]
      simp only [extA_0, extA_1, Option.bind_some, neq_nil1, condK_f, ld_tr0_s, x0, loadA_tr]
      rw [callK_ok (by simp) Dl]
      simp only [extA_0, extA_1, Option.bind_some, neq_nil1, condK_f, ld_tr0_s, x1, loadA_tr]
      rw [callK_ok (by simp) Dr]
      simp only [extA_0, extA_1, Option.bind_some, neq_nil1, condK_f]
      rw [callK_ok (by simp) (Node_ok w hw _ _ _ hl hpl hr)]
      simp only [extA_0, extA_1, Option.bind_some, neq_nil1, condK_f]
      exact endB_good (by simp)
    · have hpv2 : pv w t = t.digest := by simp [pv, h1]
      rw [hpv2] at hpv hpl ⊢
      simp only [h1, if_false, ld_tr0_a, ld_tr0_s, Option.bind_some]
      rw [callK_ok (by simp) (Pair_ok w hw t.key _ (by omega) hpv)]
      simp only [extA_0, extA_1, Option.bind_some, neq_nil1, condK_f]
      rw [callK_ok (by simp) (Of_ok w hw _ (by rw [pairF_len]; omega))]
      simp only [extA_0, extA_1, Option.bind_some, neq_nil1, condK_f, ld_tr0_s, x0, loadA_tr]
      rw [callK_ok (by simp) Dl]
      simp only [extA_0, extA_1, Option.bind_some, neq_nil1, condK_f, ld_tr0_s, x1, loadA_tr]
      rw [callK_ok (by simp) Dr]
      simp only [extA_0, extA_1, Option.bind_some, neq_nil1, condK_f]
      rw [callK_ok (by simp) (Node_ok w hw _ _ _ hl hpl hr)]
      simp only [extA_0, extA_1, Option.bind_some, neq_nil1, condK_f]
      exact endB_good (by simp)
end Go.Pm
