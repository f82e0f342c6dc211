/- A part of the proof: what the functions of the program answer, as plain lists and numbers. -/
import Derived.Test.YtaoklfecdcakbaaDoorP16
namespace Go.Pm
open Go.Proofs
set_option linter.unusedVariables false
set_option linter.unusedSimpArgs false
mutual
def toldF (w : Int) : Tre → Option (List UInt8)
  | .mk k a b c ks =>
    if k = 0 then some (ofF w [3])
    else if k = 3 then (if (c.length : Int) = w then some c else none)
    else
      let v := if k = 1 then ofF w (0 :: b) else c
      if (v.length : Int) = w then
        match toldL w ks with
        | some l :: some r :: _ => some (ofF w (nodeF l (ofF w (pairF a v)) r))
        | _ => none
      else none
def toldL (w : Int) : List Tre → List (Option (List UInt8))
  | [] => []
  | t :: ts => toldF w t :: toldL w ts
end
def pv (w : Int) (t : Tre) : List UInt8 := if t.kind = 1 then ofF w (0 :: t.value) else t.digest
theorem told_none (w : Int) (t : Tre) (h : t.kind = 0) : toldF w t = some (ofF w [3]) := by
  cases t with | mk k a b c ks => simp only [Tre.kind] at h; rw [toldF, if_pos h]
theorem told_cut (w : Int) (t : Tre) (h : t.kind = 3) : toldF w t = if (t.digest.length : Int) = w then some t.digest else none := by
  cases t with | mk k a b c ks => simp only [Tre.kind] at h; rw [toldF, if_neg (by omega), if_pos h]; rfl
theorem told_node (w : Int) (t l r : Tre) (h0 : t.kind ≠ 0) (h3 : t.kind ≠ 3) (hk : t.kids = [l, r]) : toldF w t = if ((pv w t).length : Int) = w then
    (match toldF w l, toldF w r with | some x, some y => some (ofF w (nodeF x (ofF w (pairF t.key (pv w t))) y)) | _, _ => none) else none := by
  cases t with
  | mk k a b c ks =>
    simp only [Tre.kind] at h0 h3; simp only [Tre.kids] at hk; subst hk
    rw [toldF, if_neg h0, if_neg h3]
    simp only [toldL, pv, Tre.kind, Tre.value, Tre.digest, Tre.key]
    have key : ∀ v : List UInt8, (if (v.length : Int) = w then match [toldF w l, toldF w r] with | some x :: some y :: _ => some (ofF w (nodeF x (ofF w (pairF a v)) y)) | _ => none else none) =
        if (v.length : Int) = w then (match toldF w l, toldF w r with | some x, some y => some (ofF w (nodeF x (ofF w (pairF a v)) y)) | _, _ => none) else none := fun v => by
      by_cases hv : (v.length : Int) = w
      · rw [if_pos hv, if_pos hv]
        cases toldF w l <;> cases toldF w r <;> rfl
      · rw [if_neg hv, if_neg hv]
    by_cases hk : k = 1
    · simp only [hk, if_true]; exact key _
    · simp only [hk, if_false]; exact key _
def resT : Option (List UInt8) → AV
  | some d => .tup [bys d, .nili]
  | none => .tup [.lst [], codeA 3]
theorem formed_kids {t : Tre} (h : formedF t = true) : ∀ k ∈ t.kids, formedF k = true := by
  rw [formedF_eq, Bool.and_eq_true] at h
  exact fun k hk => List.all_eq_true.1 h.2 k hk
theorem formed_node {t : Tre} (h : formedF t = true) (h0 : t.kind ≠ 0) (h3 : t.kind ≠ 3) : (t.kind = 1 ∨ t.kind = 2) ∧ t.key.length ≤ 80 ∧ t.value.length ≤ 1024 ∧ ∃ l r, t.kids = [l, r] := by
  rw [formedF_eq, Bool.and_eq_true] at h
  have h1 := h.1
  have two : t.kids.length = 2 → ∃ l r, t.kids = [l, r] := fun h => by
    rcases hx : t.kids with _ | ⟨l, _ | ⟨r, _ | ⟨x, tl⟩⟩⟩ <;> rw [hx] at h <;> simp at h
    exact ⟨l, r, rfl⟩
  unfold formed1 at h1
  rw [if_neg h0] at h1
  split at h1
  · simp only [Bool.and_eq_true, decide_eq_true_eq] at h1
    exact ⟨.inl ‹_›, h1.1, h1.2.1, two h1.2.2.2⟩
  · split at h1
    · simp only [Bool.and_eq_true, decide_eq_true_eq] at h1
      exact ⟨.inr ‹_›, h1.1, by omega, two h1.2.2⟩
    · first | cases h1 | (split at h1 <;> first | exact absurd ‹_› h3 | cases h1)
theorem told_len {w : Int} (hw : wOk w = true) (t : Tre) : ∀ {d}, formedF t = true → toldF w t = some d → (d.length : Int) = w := by
  intro d hf h
  by_cases h0 : t.kind = 0
  · rw [told_none w t h0] at h; injection h with h; subst h; exact ofF_len hw _
  · by_cases h3 : t.kind = 3
    · rw [told_cut w t h3] at h
      split at h
      · injection h with h; subst h; assumption
      · cases h
    · obtain ⟨_, _, _, l, r, hk⟩ := formed_node hf h0 h3
      rw [told_node w t l r h0 h3 hk] at h
      split at h
      · split at h
        · injection h with h; subst h; exact ofF_len hw _
        · cases h
      · cases h
theorem tree_of_ok (w : Int) (hw : wOk w = true) (b : List UInt8) (hb : b.length ≤ 2^45) : EV C n_tree_of [.int .i64 w, bys b, .nili] [] = some (.tup [bys (ofF w b), .nili], [], []) := by
  refine tree_of_of ?_
  simp only [neq_nil1, Option.bind_some, condK_f]
  rw [callK_ok (by simp) (Of_ok w hw b hb)]
  simp only [extA_0, extA_1, Option.bind_some]
  exact endB_good (by simp)
theorem tree_of_bad (w : Int) (x : AV) (n : Int) : EV C n_tree_of [.int .i64 w, x, codeA n] [] = some (.tup [.lst [], codeA 3], [], []) := by
  refine tree_of_of ?_
  simp only [codeA, neq_nil2, Option.bind_some, condK_t]
  exact endB_frz rfl rfl
theorem endE {n : Int} (H : List AObj) (E : List Nat) : endB false false 0 (.tup [.nils, codeA n]) H E = some (.tup [.lst [], codeA n], [], []) := endB_frz rfl rfl
theorem nq2 (ms : Array (String × TypeId)) (c : TypeId → Bool) (n : Int) : binA .neq (.interface ms) c true (codeA n) .nili = some (.bool true) := rfl
theorem nodeF_len (l p r : List UInt8) : (nodeF l p r).length = l.length + p.length + r.length + 1 := by simp [nodeF]; omega
theorem pairF_len (a v : List UInt8) : (pairF a v).length = a.length + v.length + 2 := by simp [pairF]
theorem told_ok (w : Int) (hw : wOk w = true) (t : Tre) : t.ok → formedF t = true → EV C n_tree_told [.int .i64 w, t.av] [] = some (resT (toldF w t), [], []) := by
  have hw' : 1 ≤ w ∧ w ≤ 32 := by simpa [wOk] using hw
  induction t using Tre.ind with
  | h t ih =>
    intro ht hf
    obtain ⟨ha, hb, hc, hk, hks⟩ := (ok_eq t).1 ht
    refine tree_told_of ?_
    simp only [List.length_nil, new_tr, List.nil_append, offA_ptr, Option.bind_some, Nat.zero_add, Nat.add_zero, ld_tr0_k, eql_int, condK_dec]
    by_cases h0 : t.kind = 0
    · rw [if_pos h0, callK_ok rfl None_ok, callK_ok (by simp) (Of_ok w hw [3] (by simp)), told_none w t h0]
      simp only [extA_0, extA_1, Option.bind_some, resT]
      exact endB_good (by simp)
    · rw [if_neg h0]
      by_cases h3 : t.kind = 3
      · rw [if_pos h3, told_cut w t h3]
        simp only [ld_tr0_c, Option.bind_some, lenV_bys, neq_int]
        by_cases hd : (t.digest.length : Int) = w
        · simp only [hd, decide_true, Bool.not_true, condK_f, if_true]
          rw [callK_ok (by simp) (Clone_byte_ok _ (by omega))]
          exact endB_good (by simp)
        · simp only [hd, decide_false, Bool.not_false, condK_t, if_false]
          exact endE _ _
      · rw [if_neg h3]
        obtain ⟨hkk, hka, hva, l, r, hks2⟩ := formed_node hf h0 h3
        have hl : l ∈ t.kids := by rw [hks2]; simp
        have hr : r ∈ t.kids := by rw [hks2]; simp
        have il := ih l hl (hks l hl) (formed_kids hf l hl)
        have ir := ih r hr (hks r hr) (formed_kids hf r hr)
        have ll : ∀ {d}, toldF w l = some d → (d.length : Int) = w := fun h => told_len hw l (formed_kids hf l hl) h
        have lr : ∀ {d}, toldF w r = some d → (d.length : Int) = w := fun h => told_len hw r (formed_kids hf r hr) h
        have x0 : ∀ H, ixA 5 (kidsA t.kids) (.int .i64 0) H = some (.ip l.av.cells) := fun H => ixA_kids (i := 0) (by rw [hks2]; rfl)
        have x1 : ∀ H, ixA 5 (kidsA t.kids) (.int .i64 1) H = some (.ip r.av.cells) := fun H => ixA_kids (i := 1) (by rw [hks2]; rfl)
        rw [told_node w t l r h0 h3 hks2]
        simp only [ld_tr0_c, Option.bind_some]
        -- what stands behind the pair
        have rest : ((pv w t).length : Int) = w → ∀ (K : AV → List AObj → List Nat → Option R3), True := fun _ _ => trivial
        by_cases h1 : t.kind = 1
        · have hpv : pv w t = ofF w (0 :: t.value) := by simp [pv, h1]
          have hl1 : ((ofF w (0 :: t.value)).length : Int) = w := ofF_len hw _
          have hpl : ((ofF w (pairF t.key (ofF w (0 :: t.value)))).length : Int) = w := ofF_len hw _
          simp only [h1, if_true, ld_tr0_b, ld_tr0_a, ld_tr0_s, Option.bind_some]
          rw [callK_ok (by simp) (Value_ok t.value (by omega)), callK_ok (by simp) (Of_ok w hw (0 :: t.value) (by simp; omega))]
          simp only [extA_0, extA_1, Option.bind_some, neq_nil1, condK_f, ld_tr0_a, ld_tr0_s]
          rw [callK_ok (by simp) (Pair_ok w hw t.key _ (by omega) hl1)]
          simp only [extA_0, extA_1, Option.bind_some]
          rw [callK_ok (by simp) (tree_of_ok w hw _ (by rw [pairF_len]; omega))]
          simp only [extA_0, extA_1, Option.bind_some, neq_nil1, condK_f, ld_tr0_s, x0, loadA_tr]
          rw [callK_ok (by simp) il, hpv, if_pos hl1]
          cases hL : toldF w l with
          | none => simp only [resT, extA_0, extA_1, Option.bind_some, nq2, condK_t]; exact endE _ _
          | some x =>
            have hx := ll hL
            simp only [resT, extA_0, extA_1, Option.bind_some, neq_nil1, condK_f, ld_tr0_s, x1, loadA_tr]
            rw [callK_ok (by simp) ir]
            cases hR : toldF w r with
            | none => simp only [resT, extA_0, extA_1, Option.bind_some, nq2, condK_t]; exact endE _ _
            | some y =>
              have hy := lr hR
              simp only [resT, extA_0, extA_1, Option.bind_some, neq_nil1, condK_f]
              rw [callK_ok (by simp) (Node_ok w hw x _ y hx hpl hy)]
              simp only [extA_0, extA_1, Option.bind_some]
              rw [callK_ok (by simp) (tree_of_ok w hw _ (by rw [nodeF_len]; omega))]
              simp only [extA_0, extA_1, Option.bind_some]
              exact endB_good (by simp)
        · have h2 : t.kind = 2 := by omega
          have hpv : pv w t = t.digest := by simp [pv, h1]
          simp only [h1, if_false, ld_tr0_a, ld_tr0_s, Option.bind_some]
          rw [hpv]
          by_cases hl1 : (t.digest.length : Int) = w
          · have hpl : ((ofF w (pairF t.key t.digest)).length : Int) = w := ofF_len hw _
            rw [callK_ok (by simp) (Pair_ok w hw t.key _ (by omega) hl1)]
            simp only [extA_0, extA_1, Option.bind_some]
            rw [callK_ok (by simp) (tree_of_ok w hw _ (by rw [pairF_len]; omega))]
            simp only [extA_0, extA_1, Option.bind_some, neq_nil1, condK_f, ld_tr0_s, x0, loadA_tr]
            rw [callK_ok (by simp) il, if_pos hl1]
            cases hL : toldF w l with
            | none => simp only [resT, extA_0, extA_1, Option.bind_some, nq2, condK_t]; exact endE _ _
            | some x =>
              have hx := ll hL
              simp only [resT, extA_0, extA_1, Option.bind_some, neq_nil1, condK_f, ld_tr0_s, x1, loadA_tr]
              rw [callK_ok (by simp) ir]
              cases hR : toldF w r with
              | none => simp only [resT, extA_0, extA_1, Option.bind_some, nq2, condK_t]; exact endE _ _
              | some y =>
                have hy := lr hR
                simp only [resT, extA_0, extA_1, Option.bind_some, neq_nil1, condK_f]
                rw [callK_ok (by simp) (Node_ok w hw x _ y hx hpl hy)]
                simp only [extA_0, extA_1, Option.bind_some]
                rw [callK_ok (by simp) (tree_of_ok w hw _ (by rw [nodeF_len]; omega))]
                simp only [extA_0, extA_1, Option.bind_some]
                exact endB_good (by simp)
          · rw [callK_ok (by simp) (Pair_bad w _ t.digest hl1), if_neg hl1]
            simp only [extA_0, extA_1, Option.bind_some]
            rw [callK_ok (args := [.int .i64 w, .lst [], codeA 1]) (by simp) (tree_of_bad w _ 1)]
            simp only [extA_0, extA_1, Option.bind_some, nq2, condK_t]
            exact endE _ _
/-- a tree's digest, or what is amiss -/
def digF (w : Int) (t : Tre) : Int × List UInt8 :=
  if wOk w = false then (1, [])
  else if checkF t = 0 then (match toldF w t with | some d => (0, d) | none => (3, []))
  else (checkF t, [])
def resD (p : Int × List UInt8) : AV := .tup [bys p.2, errA p.1]
@[simp] theorem good_resD (p : Int × List UInt8) : (resD p).good = true := by simp [resD]
theorem errA_ne {n : Int} (h : n ≠ 0) : errA n = codeA n := by unfold errA; rw [if_neg h]
theorem check_formed {t : Tre} (h : checkF t = 0) : formedF t = true := by
  unfold checkF at h
  split at h
  · omega
  · split at h
    · assumption
    · omega
theorem Digest_ok (w : Int) (t : Tre) (ht : t.ok) : EV C n_tree_Digest [.int .i64 w, t.av] [] = some (resD (digF w t), [], []) := by
  refine tree_Digest_of ?_
  simp only [List.length_nil, new_tr, List.nil_append, lss_int, gtr_int, Option.bind_some, splitK_dec, condK_dec]
  split
  · have hw : wOk w = false := by simp only [wOk, decide_eq_false_iff_not]; omega
    simp only [digF, hw, if_true]
    exact endE _ _
  · split
    · have hw : wOk w = false := by simp only [wOk, decide_eq_false_iff_not]; omega
      simp only [digF, hw, if_true]
      exact endE _ _
    · have hw : wOk w = true := by simp only [wOk, decide_eq_true_eq]; omega
      simp only [ld_tr0, Option.bind_some]
      rw [callK_ok (by simp) (Check_ok t ht)]
      by_cases hc : checkF t = 0
      · simp only [hc, errA, if_true, neq_nil1, Option.bind_some, condK_f, ld_tr0]
        rw [callK_ok (by simp) (told_ok w hw t ht (check_formed hc))]
        simp only [digF, hw, hc, Bool.true_eq_false, if_false, if_true]
        cases toldF w t with
        | some d => simp only [resT, extA_0, extA_1, Option.bind_some]; exact endB_good (by simp)
        | none => simp only [resT, extA_0, extA_1, Option.bind_some]; exact endB_good (by simp)
      · rw [errA_ne hc]
        simp only [nq2, Option.bind_some, condK_t, digF, hw, hc, Bool.true_eq_false, if_false, resD, errA_ne hc]
        exact endE _ _
end Go.Pm
