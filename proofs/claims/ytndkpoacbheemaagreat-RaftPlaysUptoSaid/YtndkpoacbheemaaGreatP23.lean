/- A part of the proof: what the functions of the program answer, as plain lists and numbers. -/
import Derived.Test.YtndkpoacbheemaaGreatP22
namespace Go.Pm
open Go.Proofs
set_option linter.unusedVariables false
set_option linter.unusedSimpArgs false
def Lg.base (g : Lg) : AV := .agg [.int .i64 g.index, .int .i64 g.term, ints g.mems]
theorem ld_base0 (g : Lg) (T : List AObj) : loadA true 3 (.ptr 0 1 0 0) (.row 4 [g.av] :: T) = some g.base := rfl
theorem ld_base1_i (g : Lg) (o : AObj) (T : List AObj) : loadA false 1 (.ptr 1 1 0 0) (o :: .row 3 [g.base] :: T) = some (.int .i64 g.index) := rfl
theorem ld_base1_t (g : Lg) (o : AObj) (T : List AObj) : loadA false 1 (.ptr 1 1 0 1) (o :: .row 3 [g.base] :: T) = some (.int .i64 g.term) := rfl
theorem ld_base1_m (g : Lg) (o : AObj) (T : List AObj) : loadA false 1 (.ptr 1 1 0 2) (o :: .row 3 [g.base] :: T) = some (ints g.mems) := rfl
set_option linter.defProp false in
def ZM := And.intro (@Bool.false_eq_true) (And.intro (@if_false.{1}) (And.intro (@if_true.{1}) (And.intro (@and_self) (And.intro (@and_true) (And.intro (@and_false) (And.intro (@false_and) (And.intro (@ld_ent2_t) (And.intro (@ld_ent2_k) (And.intro (@ld_ent2_d) (And.intro (@neq_nil1) (And.intro (@neq_nil2) (And.intro (@eql_nil2) (And.intro (@nili_eq) (And.intro (@ld_base0) (And.intro (@ld_base1_i) (And.intro (@ld_base1_t) (@ld_base1_m)))))))))))))))))
theorem sto_base {β : Type} {H : List AObj} {l : Nat} {a b c : AV} (g : Lg) {K : List AObj → List Nat → Option β} (h : H[l]? = some (.row 3 [.agg [a, b, c]])) : stoK 3 (.ptr l 1 0 0) g.base H K = K (H.set l (.row 3 [g.base])) [] :=
 sto_agg (ds := [.int .i64 g.index, .int .i64 g.term, ints g.mems]) h rfl rfl (by simp)
theorem entOk_f {e : Ent} {t : Int} (h : ¬ (t ≤ e.term ∧ 1 ≤ e.term ∧ e.term ≤ most ∧ 0 ≤ e.kind ∧ e.kind ≤ 2)) : entOk e t = false := by simp only [entOk, h, decide_false, Bool.false_and]
theorem chk_f {t : Int} {e : Ent} {l : List Ent} (h : entOk e t = false) : chkEs t (e :: l) = false := by simp only [chkEs, h, Bool.false_and]
/-- ref18.Check: a round -/
theorem rcheck_loop (g : Lg) (hl : g.es.length < 2^62) (hp : lightP g.es) : ∀ (m i : Nat) (t : Int) (E : List Nat), i + m = g.es.length → g.term ≤ t → (i = 0 → t = g.term) → (0 < i → ∃ e, g.es[i - 1]? = some e ∧ e.term = t) →
  ref18_Check_J6 0 (.ptr 0 1 0 0) (.ptr 1 1 0 0) (.int .i64 i) [.row 4 [g.av], .row 3 [g.base]] E = some (.bool (chkEs t (g.es.drop i)), [], []) := by
 intro m
 induction m with
 | zero =>
  intro i t E h ht h0 h1
  refine ref18_Check_J6_of ?_
  have e1 : ¬ ((i : Int) < (g.es.length : Int)) := by omega
  have e2 : g.es.drop i = [] := List.drop_eq_nil_of_le (by omega)
  simp only [ZL, Nat.reduceAdd, ZM, e1, decide_false, e2, chkEs, if_true]
  exact endB_good rfl
 | succ m ih =>
  intro i t E h ht h0 h1
  refine ref18_Check_J6_of ?_
  have hm : most = 1152921504606846976 := rfl
  have hi : i < g.es.length := by omega
  have e1 : ((i : Int) < (g.es.length : Int)) := by omega
  have e2 : g.es.drop i = g.es[i] :: g.es.drop (i + 1) := List.drop_eq_getElem_cons hi
  have e3 : IntKind.i64.wrap ((i : Int) + 1) = ((i + 1 : Nat) : Int) := w64 (by omega) (by omega)
  simp only [ZL, Nat.reduceAdd, ZM, e1, decide_true, e2, ixA_ents (List.getElem?_eq_getElem hi), new_ent0]
  have hde := hp g.es[i] (List.getElem_mem hi)
  have hg : ∀ e, g.es[i]? = some e → g.es[i + 1 - 1]? = some e := fun e he => he
  have hgi := List.getElem?_eq_getElem hi
  generalize g.es[i] = e at *
  rw [sto_ent e rfl]
  simp only [List.set_cons_succ, List.set_cons_zero, ZL, Nat.reduceAdd, ZM]
  have fin : ∀ (H : List AObj) (E : List Nat), entOk e t = false → endB false false 0 (.bool false) H E = some (.bool (chkEs t (e :: g.es.drop (i + 1))), [], []) := fun H E h => by
    rw [chk_f h]; exact endB_good rfl
  have go : entOk e t = true → ref18_Check_J6 0 (.ptr 0 1 0 0) (.ptr 1 1 0 0) (.int .i64 ((i + 1 : Nat) : Int)) [.row 4 [g.av], .row 3 [g.base]] E = some (.bool (chkEs t (e :: g.es.drop (i + 1))), [], []) := fun h => by
    simp only [chkEs, h, Bool.true_and]
    have : t ≤ e.term := by
      simp only [entOk, Bool.and_eq_true, decide_eq_true_eq] at h; omega
    exact ih (i + 1) e.term E (by omega) (by omega) (by omega) (fun _ => ⟨e, hgi, rfl⟩)
  split
  · exact fin _ _ (entOk_f (by omega))
  · split
    · exact fin _ _ (entOk_f (by omega))
    · split
      · exact fin _ _ (entOk_f (by omega))
      · -- the rest of a round
        have rest : t ≤ e.term → (if e.kind < 0 then endB false false 0 (.bool false) [.row 4 [g.av], .row 3 [g.base], .row 3 [e.av]] ([] ++ ([] ++ []) ++ E)
            else if 2 < e.kind then endB false false 0 (.bool false) [.row 4 [g.av], .row 3 [g.base], .row 3 [e.av]] ([] ++ ([] ++ []) ++ E)
            else if e.kind = 2 then (callK (EV C) false n_ref17_Of [bys e.data] [.row 4 [g.av], .row 3 [g.base], .row 3 [e.av]] fun a43 H43 E43 =>
                (extA a43 0).bind fun a44 => (extA a43 1).bind fun a45 => (unA .not a45).bind fun a46 =>
                condK a46 (endB false false 0 (.bool false) H43 ((E43 ++ ([] ++ ([] ++ []))) ++ E))
                  (condB (List.all (E43 ++ ([] ++ ([] ++ []))) (fun e => decide (2 ≤ e)) && (AV.bel 2 (.ptr 0 1 0 0) && (AV.bel 2 (.ptr 1 1 0 0) && (AV.bel 2 (.int .i64 ((i + 1 : Nat) : Int)) && true))))
                   (ref18_Check_J6 0 (.ptr 0 1 0 0) (.ptr 1 1 0 0) (.int .i64 ((i + 1 : Nat) : Int)) (List.take 2 H43) E)))
            else condB (List.all ([] ++ ([] ++ [])) (fun e => decide (2 ≤ e)) && (AV.bel 2 (.ptr 0 1 0 0) && (AV.bel 2 (.ptr 1 1 0 0) && (AV.bel 2 (.int .i64 ((i + 1 : Nat) : Int)) && true))))
                (ref18_Check_J6 0 (.ptr 0 1 0 0) (.ptr 1 1 0 0) (.int .i64 ((i + 1 : Nat) : Int)) (List.take 2 [.row 4 [g.av], .row 3 [g.base], .row 3 [e.av]]) E)) = some (.bool (chkEs t (e :: g.es.drop (i + 1))), [], []) := fun hte => by
          split
          · exact fin _ _ (entOk_f (by omega))
          · split
            · exact fin _ _ (entOk_f (by omega))
            · have hb : decide (t ≤ e.term ∧ 1 ≤ e.term ∧ e.term ≤ most ∧ 0 ≤ e.kind ∧ e.kind ≤ 2) = true := by simp only [decide_eq_true_eq]; omega
              split
              · rename_i hk
                have hok : entOk e t = mayL (ofB e.data) := by
                  have : decide (e.kind ≠ 2) = false := by simp [hk]
                  simp only [entOk, hb, this, Bool.true_and, Bool.false_or]
                rw [callK_ok (by simp) (ref17_Of_ok e.data hde)]
                by_cases hmay : mayL (ofB e.data) = true
                · simp only [hmay, if_true, ZL, Nat.reduceAdd, ZM]
                  rw [condB_t (by simp [AV.bel])]
                  exact go (hok.trans hmay)
                · simp only [Bool.not_eq_true] at hmay
                  simp only [hmay, Bool.false_eq_true, if_false, ZL, Nat.reduceAdd, ZM]
                  exact fin _ _ (hok.trans hmay)
              · rename_i hk
                rw [condB_t (by simp [AV.bel])]
                refine go ?_
                have : decide (e.kind ≠ 2) = true := by simp [hk]
                simp only [entOk, hb, this, Bool.true_and, Bool.true_or]
        split
        · rename_i hpos
          obtain ⟨e0, h3, h4⟩ := h1 (by omega)
          have e4 : IntKind.i64.wrap ((i : Int) - 1) = ((i - 1 : Nat) : Int) := w64 (by omega) (by omega)
          simp only [ZL, Nat.reduceAdd, ZM, e4, ixA_ents h3, h4]
          split
          · exact fin _ _ (entOk_f (by omega))
          · simp only [e3]
            exact rest (by omega)
        · have := h0 (by omega)
          simp only [e3]
          exact rest (by omega)
theorem rCheck_ok (g : Lg) (hm : g.mems.length < 2^62) (hl : g.es.length < 2^62) (hp : lightP g.es) : EV C n_ref18_Check [g.av] [] = some (.bool (soundL g), [], []) := by
 refine ref18_Check_of ?_
 have hmo : most = 1152921504606846976 := rfl
 have bad : soundL g = false → ∀ (H : List AObj) (E : List Nat), endB false false 0 (.bool false) H E = some (.bool (soundL g), [], []) := fun h H E => by
  rw [h]; exact endB_good rfl
 have b2 : ¬ (0 ≤ g.index ∧ g.index ≤ most ∧ 0 ≤ g.term ∧ g.term ≤ most ∧ (g.es.length : Int) ≤ most - g.index) → soundL g = false := fun h => by
  unfold soundL; simp only [h, decide_false, Bool.false_and]
 simp only [ZL, Nat.reduceAdd, ZM, new_ent0]
 rw [sto_base g rfl]
 simp only [List.set_cons_succ, List.set_cons_zero, ZL, Nat.reduceAdd, ZM]
 rw [callK_ok (by simp) (ref17_May_ok g.mems hm)]
 by_cases hc3 : mayL g.mems = true
 case neg =>
  simp only [Bool.not_eq_true] at hc3
  simp only [hc3, ZL, Nat.reduceAdd, ZM]
  refine bad ?_ _ _
  unfold soundL; rw [hc3, Bool.false_and, Bool.and_false]
 case pos =>
  simp only [hc3, ZL, Nat.reduceAdd, ZM]
  split
  · exact bad (b2 (by omega)) _ _
  · split
    · exact bad (b2 (by omega)) _ _
    · split
      · exact bad (b2 (by omega)) _ _
      · split
        · exact bad (b2 (by omega)) _ _
        · have e1 : IntKind.i64.wrap (1152921504606846976 - g.index) = 1152921504606846976 - g.index := by rw [wrap64] <;> omega
          simp only [e1]
          split
          · exact bad (b2 (by omega)) _ _
          · have : soundL g = chkEs g.term g.es := by
             unfold soundL; rw [hc3, Bool.true_and]
             have : decide (0 ≤ g.index ∧ g.index ≤ most ∧ 0 ≤ g.term ∧ g.term ≤ most ∧ (g.es.length : Int) ≤ most - g.index) = true := by simp only [decide_eq_true_eq]; omega
             rw [this, Bool.true_and]
            rw [this]
            exact rcheck_loop g hl hp g.es.length 0 g.term _ (by omega) (by omega) (by omega) (by omega)
structure Small (g : Lg) : Prop where
 i0 : 0 ≤ g.index
 i1 : g.index + g.es.length ≤ most
theorem sound_small {g : Lg} (h : soundL g = true) : Small g := by
 simp only [soundL, Bool.and_eq_true, decide_eq_true_eq] at h
 exact ⟨by omega, by omega⟩
def lastL (g : Lg) : Int := g.index + g.es.length
theorem last_ok (g : Lg) (h : Small g) : EV C n_log_last [g.av] [] = some (.int .i64 (lastL g), [], []) := by
 refine log_last_of ?_
 have h0 := h.i0; have h1 := h.i1; have hmo : most = 1152921504606846976 := rfl
 have e1 : IntKind.i64.wrap (g.index + (g.es.length : Int)) = g.index + (g.es.length : Int) := by rw [wrap64] <;> omega
 simp only [ZL, Nat.reduceAdd, ZM, e1]
 exact endB_good rfl
theorem rLast_ok (g : Lg) (h : Small g) : EV C n_ref18_Last [g.av] [] = some (.int .i64 (lastL g), [], []) := by
 refine ref18_Last_of ?_
 have h0 := h.i0; have h1 := h.i1; have hmo : most = 1152921504606846976 := rfl
 have e1 : IntKind.i64.wrap (g.index + (g.es.length : Int)) = g.index + (g.es.length : Int) := by rw [wrap64] <;> omega
 simp only [ZL, Nat.reduceAdd, ZM, e1]
 exact endB_good rfl
def hasL (g : Lg) (i : Int) : Bool := decide (g.index ≤ i ∧ i ≤ lastL g)
theorem hasL_iff {g : Lg} {i : Int} : hasL g i = true ↔ g.index ≤ i ∧ i ≤ g.index + (g.es.length : Int) := by unfold hasL lastL; exact decide_eq_true_iff
theorem has_ok (g : Lg) (i : Int) (h : Small g) : EV C n_log_has [g.av, .int .i64 i] [] = some (.bool (hasL g i), [], []) := by
 refine log_has_of ?_
 simp only [ZL, Nat.reduceAdd, ZM]
 split
 · rename_i h1
   rw [callK_ok (by simp) (last_ok g h)]
   simp only [ZL, Nat.reduceAdd, ZM]
   refine (endB_good rfl).trans ?_
   simp [hasL, h1]
 · rename_i h1
   refine (endB_good rfl).trans ?_
   simp [hasL, h1]
def termL (g : Lg) (i : Int) : Int := if i = g.index then g.term else ((g.es[(i - g.index - 1).toNat]?).map (·.term)).getD 0
theorem has_get {g : Lg} {i : Int} (h : hasL g i = true) (hne : i ≠ g.index) : ∃ e, g.es[(i - g.index - 1).toNat]? = some e ∧ termL g i = e.term := by
 have h := hasL_iff.1 h
 have hlt : (i - g.index - 1).toNat < g.es.length := by omega
 refine ⟨g.es[(i - g.index - 1).toNat], List.getElem?_eq_getElem hlt, ?_⟩
 simp only [termL, if_neg hne, List.getElem?_eq_getElem hlt, Option.map_some, Option.getD_some]
theorem term_ok (g : Lg) (i : Int) (h : Small g) (hh : hasL g i = true) : EV C n_log_term [g.av, .int .i64 i] [] = some (.int .i64 (termL g i), [], []) := by
 refine log_term_of ?_
 have h0 := h.i0; have h1 := h.i1; have hmo : most = 1152921504606846976 := rfl
 have hb := hasL_iff.1 hh
 simp only [ZL, Nat.reduceAdd, ZM]
 split
 · rename_i he
   simp only [termL, if_pos he]
   exact endB_good rfl
 · rename_i he
   obtain ⟨e, h3, h4⟩ := has_get hh he
   have e1 : IntKind.i64.wrap (i - g.index) = i - g.index := by rw [wrap64] <;> omega
   have e2 : IntKind.i64.wrap (i - g.index - 1) = i - g.index - 1 := by rw [wrap64] <;> omega
   simp only [ZL, Nat.reduceAdd, ZM, e1, e2, ixA_ents' (show 0 ≤ i - g.index - 1 by omega) h3, h4]
   exact endB_good rfl
theorem rTerm_ok (g : Lg) (i : Int) (h : Small g) (hh : hasL g i = true) : EV C n_ref18_Term [g.av, .int .i64 i] [] = some (.int .i64 (termL g i), [], []) := by
 refine ref18_Term_of ?_
 have h0 := h.i0; have h1 := h.i1; have hmo : most = 1152921504606846976 := rfl
 have hb := hasL_iff.1 hh
 have e1 : IntKind.i64.wrap (i - g.index) = i - g.index := by rw [wrap64] <;> omega
 simp only [ZL, Nat.reduceAdd, ZM, e1]
 split
 · rename_i he
   have : i = g.index := by omega
   simp only [termL, if_pos this]
   exact endB_good rfl
 · rename_i he
   obtain ⟨e, h3, h4⟩ := has_get hh (by omega)
   have e2 : IntKind.i64.wrap (i - g.index - 1) = i - g.index - 1 := by rw [wrap64] <;> omega
   simp only [ZL, Nat.reduceAdd, ZM, e1, e2, ixA_ents' (show 0 ≤ i - g.index - 1 by omega) h3, h4]
   exact endB_good rfl
structure LgOk (g : Lg) : Prop where
 m : g.mems.length < 2^62
 e : g.es.length < 2^40
 d : lightP g.es
def checkA (g : Lg) : AV := if soundL g = true then .nili else codeA 3
theorem Check_ok' (g : Lg) (h : LgOk g) : EV C n_log_Check [g.av] [] = some (checkA g, [], []) := Check_ok g h.m (by have := h.e; omega) h.d
theorem Last_ok (g : Lg) (h : LgOk g) : EV C n_log_Last [g.av] [] = some (.tup [.int .i64 (if soundL g = true then lastL g else 0), .int .i64 (if soundL g = true then termL g (lastL g) else 0)], [], []) := by
 refine log_Last_of ?_
 simp only [ZL, Nat.reduceAdd, ZM]
 rw [callK_ok (by simp) (Check_ok' g h)]
 unfold checkA codeA
 by_cases hs : soundL g = true
 · have hsm := sound_small hs
   have hl : hasL g (lastL g) = true := hasL_iff.2 (by unfold lastL; omega)
   simp only [hs, if_true, ZL, Nat.reduceAdd, ZM]
   rw [callD_ok (by simp) (last_ok g hsm)]
   simp only [ZL, Nat.reduceAdd, ZM]
   rw [callD_ok (by simp) (term_ok g _ hsm hl)]
   simp only [ZL, Nat.reduceAdd, ZM]
   exact endB_good rfl
 · simp only [hs, if_false, ZL, Nat.reduceAdd, ZM]
   exact endB_good rfl
def askedA (g : Lg) (i : Int) : AV := if soundL g = true then (if hasL g i = true then .nili else codeA 9) else codeA 3
theorem asked_ok (g : Lg) (i : Int) (h : LgOk g) : EV C n_log_asked [g.av, .int .i64 i] [] = some (askedA g i, [], []) := by
 refine log_asked_of ?_
 simp only [ZL, Nat.reduceAdd, ZM]
 rw [callK_ok (by simp) (Check_ok' g h)]
 unfold checkA askedA codeA
 by_cases hs : soundL g = true
 · simp only [hs, if_true, ZL, Nat.reduceAdd, ZM]
   rw [callK_ok (by simp) (has_ok g i (sound_small hs))]
   by_cases hh : hasL g i = true
   · simp only [hh, if_true, ZL, Nat.reduceAdd, ZM]; exact endB_good rfl
   · simp only [Bool.not_eq_true] at hh
     simp only [hh, Bool.false_eq_true, if_false, ZL, Nat.reduceAdd, ZM]; exact endB_good rfl
 · simp only [hs, if_false, ZL, Nat.reduceAdd, ZM]
   exact endB_good rfl
theorem Term_ok (g : Lg) (i : Int) (h : LgOk g) : EV C n_log_Term [g.av, .int .i64 i] [] = some (.tup [.int .i64 (if soundL g = true ∧ hasL g i = true then termL g i else 0), askedA g i], [], []) := by
 refine log_Term_of ?_
 simp only [ZL, Nat.reduceAdd, ZM]
 rw [callK_ok (by simp) (asked_ok g i h)]
 unfold askedA codeA
 by_cases hs : soundL g = true
 · by_cases hh : hasL g i = true
   · simp only [hs, hh, if_true, ZL, Nat.reduceAdd, ZM, and_self]
     rw [callK_ok (by simp) (term_ok g i (sound_small hs) hh)]
     exact endB_good rfl
   · simp only [hs, hh, if_true, if_false, ZL, Nat.reduceAdd, ZM, and_false]
     exact endB_good rfl
 · simp only [hs, if_false, ZL, Nat.reduceAdd, ZM, false_and]
   exact endB_good rfl
end Go.Pm
