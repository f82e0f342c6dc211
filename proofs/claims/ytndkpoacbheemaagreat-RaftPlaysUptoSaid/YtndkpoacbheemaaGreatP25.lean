/- A part of the proof: what the functions of the program answer, as plain lists and numbers. -/
import Derived.Test.YtndkpoacbheemaaGreatP24
namespace Go.Pm
open Go.Proofs
set_option linter.unusedVariables false
set_option linter.unusedSimpArgs false
def memF (out : List Int) : List Ent → List Int
 | [] => out
 | e :: l => memF (if e.kind = 2 then ofB e.data else out) l
theorem memF_snoc (out : List Int) (e : Ent) : ∀ (l : List Ent), memF out (l ++ [e]) = if e.kind = 2 then ofB e.data else memF out l
 | [] => rfl
 | x :: l => by simp only [List.cons_append, memF]; exact memF_snoc _ e l
def membersL (g : Lg) (i : Int) : List Int := memF g.mems (g.es.take (i - g.index).toNat)
theorem chk_may : ∀ {l : List Ent} {t : Int}, chkEs t l = true → ∀ e ∈ l, e.kind = 2 → mayL (ofB e.data) = true
 | [], t, h, e, he, hk => by simp at he
 | x :: l, t, h, e, he, hk => by
  simp only [chkEs, Bool.and_eq_true] at h
  rcases List.mem_cons.1 he with rfl | he
  · have := h.1
    simp only [entOk, Bool.and_eq_true, Bool.or_eq_true, decide_eq_true_eq] at this
    rcases this.2 with h1 | h1
    · exact absurd hk h1
    · exact h1
  · exact chk_may h.2 e he hk
theorem sound_may {g : Lg} (h : soundL g = true) : ∀ e ∈ g.es, e.kind = 2 → mayL (ofB e.data) = true := by
 simp only [soundL, Bool.and_eq_true] at h
 exact chk_may h.2.2
theorem take_snoc {α : Type} {l : List α} {i : Nat} {e : α} (h : l[i]? = some e) : l.take (i + 1) = l.take i ++ [e] := by
 rw [List.take_add_one, h]; rfl
theorem members_loop (g : Lg) (hg : LgOk g) (hs : soundL g = true) : ∀ (j : Nat) (E : List Nat), j ≤ g.es.length →
  log_Members_J4 0 (.ptr 0 1 0 0) (.int .i64 (g.index + j)) [.row 4 [g.av]] E = some (ints (memF g.mems (g.es.take j)), [], []) := by
 intro j
 have hsm := sound_small hs
 have h0 := hsm.i0; have h1 := hsm.i1; have hmo : most = 1152921504606846976 := rfl
 have hml : g.mems.length ≤ 2^40 := by
  simp only [soundL, mayL, Bool.and_eq_true] at hs
  have := incr_len g.mems 0 (by omega) hs.2.1.2
  omega
 induction j with
 | zero =>
  intro E hj
  refine log_Members_J4_of ?_
  have e1 : ¬ (g.index < g.index + ((0 : Nat) : Int)) := by omega
  simp only [ZL, Nat.reduceAdd, ZM, e1]
  rw [callK_ok (by simp) (Clone_int_ok g.mems hml)]
  exact endB_good (good_ints _)
 | succ j ih =>
  intro E hj
  refine log_Members_J4_of ?_
  have e1 : g.index < g.index + ((j + 1 : Nat) : Int) := by omega
  have e2 : IntKind.i64.wrap (g.index + ((j + 1 : Nat) : Int) - g.index) = g.index + ((j + 1 : Nat) : Int) - g.index := by rw [wrap64] <;> omega
  have e3 : IntKind.i64.wrap (g.index + ((j + 1 : Nat) : Int) - g.index - 1) = ((j : Nat) : Int) := w64 (by omega) (by omega)
  have e4 : IntKind.i64.wrap (g.index + ((j + 1 : Nat) : Int) - 1) = g.index + (j : Int) := by rw [wrap64] <;> omega
  have hjl : j < g.es.length := by omega
  have hget := List.getElem?_eq_getElem hjl
  have hmem := List.getElem_mem hjl
  generalize g.es[j] = e at hget hmem
  simp only [ZL, Nat.reduceAdd, ZM, e1, e2, e3, e4, ixA_ents hget, new_ent0]
  rw [sto_ent e rfl]
  simp only [List.set_cons_succ, List.set_cons_zero, ZL, Nat.reduceAdd, ZM]
  rw [take_snoc hget, memF_snoc]
  split
  · rename_i hk
    rw [callK_ok (by simp) (conf_Of_ok e.data (hg.d e hmem))]
    simp only [sound_may hs e hmem hk, ZL, Nat.reduceAdd, ZM]
    exact endB_good (good_ints _)
  · rename_i hk
    rw [condB_t (by simp [AV.bel])]
    exact ih _ (by omega)
theorem Members_ok (g : Lg) (i : Int) (hg : LgOk g) : EV C n_log_Members [g.av, .int .i64 i] [] = some (ints (if soundL g = true then membersL g i else []), [], []) := by
 refine log_Members_of ?_
 simp only [ZL, Nat.reduceAdd, ZM]
 rw [callK_ok (by simp) (Check_ok' g hg)]
 unfold checkA codeA
 by_cases hs : soundL g = true
 · have hsm := sound_small hs
   simp only [hs, ZL, Nat.reduceAdd, ZM]
   rw [callK_ok (by simp) (last_ok g hsm)]
   have hmin : minA [.int .i64 i, .int .i64 (lastL g)] = some (.int .i64 (min i (lastL g))) := by
     show some (AV.int .i64 (if lastL g < i then lastL g else i)) = _
     have : (if lastL g < i then lastL g else i) = min i (lastL g) := by split <;> omega
     rw [this]
   simp only [hmin, ZL, Nat.reduceAdd, ZM]
   rcases Int.lt_or_le i g.index with hlt | hge
   · have h0 := hsm.i0; have h1 := hsm.i1
     have e1 : membersL g i = memF g.mems (g.es.take 0) := by
      unfold membersL; rw [show (i - g.index).toNat = 0 by omega]
     rw [e1]
     have e2 : min i (lastL g) = i := by unfold lastL; omega
     rw [e2]
     -- the loop ends at once
     refine log_Members_J4_of ?_
     have e3 : ¬ (g.index < i) := by omega
     have hml : g.mems.length ≤ 2^40 := by
      simp only [soundL, mayL, Bool.and_eq_true] at hs
      have := incr_len g.mems 0 (by omega) hs.2.1.2
      omega
     simp only [ZL, Nat.reduceAdd, ZM, e3]
     rw [callK_ok (by simp) (Clone_int_ok g.mems hml)]
     exact endB_good (good_ints _)
   · have e2 : min i (lastL g) = g.index + ((min (i - g.index).toNat g.es.length : Nat) : Int) := by unfold lastL; omega
     have e1 : membersL g i = memF g.mems (g.es.take (min (i - g.index).toNat g.es.length)) := by
      unfold membersL; rw [← List.take_eq_take_min]
     rw [e2, e1]
     exact members_loop g hg hs _ _ (by omega)
 · simp only [Bool.not_eq_true] at hs
   simp only [hs, ZL, Nat.reduceAdd, ZM]
   exact endB_frz rfl rfl
def sliceL (g : Lg) (i n : Int) : List Ent := if g.index < i ∧ i ≤ lastL g then (g.es.drop (i - g.index - 1).toNat).take n.toNat else []
theorem Slice_ok (g : Lg) (i n : Int) (hg : LgOk g) : EV C n_log_Slice [g.av, .int .i64 i, .int .i64 n] [] = some (ents (if soundL g = true then sliceL g i n else []), [], []) := by
 refine log_Slice_of ?_
 simp only [ZL, Nat.reduceAdd, ZM]
 rw [callK_ok (by simp) (asked_ok g i hg)]
 unfold askedA codeA
 by_cases hs : soundL g = true
 · have hsm := sound_small hs
   have h0 := hsm.i0; have h1 := hsm.i1; have hmo : most = 1152921504606846976 := rfl
   by_cases hh : hasL g i = true
   · have hb := hasL_iff.1 hh
     simp only [hs, hh, ZL, Nat.reduceAdd, ZM]
     split
     · rename_i he
       have : sliceL g i n = [] := by unfold sliceL; rw [if_neg (by omega)]
       rw [this]
       exact endB_frz rfl rfl
     · rename_i he
       split
       · rename_i hn
         have : sliceL g i n = [] := by
          unfold sliceL; split
          · rw [show n.toNat = 0 by omega]; rfl
          · rfl
         rw [this]
         exact endB_frz rfl rfl
       · rename_i hn
         have e1 : IntKind.i64.wrap (i - g.index) = i - g.index := by rw [wrap64] <;> omega
         have e2 : IntKind.i64.wrap (i - g.index - 1) = (((i - g.index - 1).toNat : Nat) : Int) := w64 (by omega) (by omega)
         have hcut : ∀ H, cutA 3 (ents g.es) (some (.int .i64 (((i - g.index - 1).toNat : Nat) : Int))) none none H = some (ents (g.es.drop (i - g.index - 1).toNat)) := fun H => by
          rw [cutA_ents (i := (i - g.index - 1).toNat) (j := g.es.length) rfl rfl (by omega) (Nat.le_refl _), List.take_length]
         have hmin : ∀ b : Int, minA [.int .i64 n, .int .i64 b] = some (.int .i64 (min n b)) := fun b => by
          show some (AV.int .i64 (if b < n then b else n)) = _
          have : (if b < n then b else n) = min n b := by split <;> omega
          rw [this]
         have hmn : min n ((g.es.drop (i - g.index - 1).toNat).length : Int) = ((min n.toNat (g.es.drop (i - g.index - 1).toNat).length : Nat) : Int) := by omega
         have hcut2 : ∀ H, cutA 3 (ents (g.es.drop (i - g.index - 1).toNat)) none (some (.int .i64 ((min n.toNat (g.es.drop (i - g.index - 1).toNat).length : Nat) : Int))) none H = some (ents ((g.es.drop (i - g.index - 1).toNat).take n.toNat)) := fun H => by
          rw [cutA_ents (i := 0) (j := min n.toNat (g.es.drop (i - g.index - 1).toNat).length) rfl rfl (by omega) (by omega), List.drop_zero, ← List.take_eq_take_min]
         simp only [ZL, Nat.reduceAdd, ZM, e1, e2, hcut, hmin, hmn, hcut2]
         have hl : ((g.es.drop (i - g.index - 1).toNat).take n.toNat).length ≤ 2^40 := by
          rw [List.length_take, List.length_drop]; have := hg.e; omega
         rw [callK_ok (by simp) (Clone_api_Entry_ok _ hl)]
         have : sliceL g i n = (g.es.drop (i - g.index - 1).toNat).take n.toNat := by unfold sliceL lastL; rw [if_pos (by omega)]
         rw [this]
         exact endB_good (good_ents _)
   · have : sliceL g i n = [] := by
       have : ¬ (g.index ≤ i ∧ i ≤ g.index + (g.es.length : Int)) := fun h => hh (hasL_iff.2 h)
       unfold sliceL lastL; rw [if_neg (by omega)]
     simp only [hs, hh, this, ZL, Nat.reduceAdd, ZM]
     exact endB_frz rfl rfl
 · simp only [hs, ZL, Nat.reduceAdd, ZM]
   exact endB_frz rfl rfl
theorem litE {H : List AObj} (e : Ent) (K : AV → List AObj → List Nat → Option R3) : litK 3 1 (.agg [(.int .i64 0), (.int .i64 0), .nils]) [(0, e.av)] H K = K (.lst ([e].map Ent.av)) H [] := rfl
end Go.Pm
