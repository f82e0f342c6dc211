/- A part of the proof: what the functions of the program answer, as plain lists and numbers. -/
import Derived.Test.YtndkpoacbheemaaGreatP9
import Derived.Test.YtndkpoacbheemaaGreatP10
import Derived.Test.YtndkpoacbheemaaGreatP11
import Derived.Test.YtndkpoacbheemaaGreatP12
import Derived.Test.YtndkpoacbheemaaGreatP13
import Derived.Test.YtndkpoacbheemaaGreatP14
import Derived.Test.YtndkpoacbheemaaGreatP15
import Derived.Test.YtndkpoacbheemaaGreatP16
import Derived.Test.YtndkpoacbheemaaGreatP17
import Derived.Test.YtndkpoacbheemaaGreatP18
import Derived.Test.YtndkpoacbheemaaGreatP19
namespace Go.Pm
open Go.Proofs
set_option linter.unusedVariables false
set_option linter.unusedSimpArgs false
theorem w64 {x : Int} {n : Nat} (h : x = n) (h1 : n < 2^63) : IntKind.i64.wrap x = (n : Int) := by subst h; rw [wrap64] <;> omega
theorem ixA_map {α : Type} {f : α → AV} (hf : ∀ a, (f a).cells = [f a]) {l : List α} {k : IntKind} {i : Nat} {a : α} {H : List AObj} (h : l[i]? = some a) : ixA 1 (.lst (l.map f)) (.int k i) H = some (.ip [f a]) := by
 rw [ixA_lst (e := f a) (by omega) (by simp [h]) (by simp [hf]), hf]
theorem not_bool (b : Bool) : unA .not (.bool b) = some (.bool (!b)) := rfl
def i64 (n : Int) : AV := .int .i64 n
def ints (l : List Int) : AV := .lst (l.map i64)
@[simp] theorem good_ints (l : List Int) : (ints l).good = true := goodL_map (fun _ => rfl) l
@[simp] theorem goodL_i64 (l : List Int) : goodL (l.map i64) = true := goodL_map (fun _ => rfl) l
theorem lenV_ints (l : List Int) (H : List AObj) : lenV (ints l) H = some (.int .i64 l.length) := by simp [ints]
theorem ixA_ints {l : List Int} {k : IntKind} {i : Nat} {a : Int} {H : List AObj} (h : l[i]? = some a) : ixA 1 (ints l) (.int k i) H = some (.ip [.int .i64 a]) := ixA_map (f := i64) (fun _ => rfl) h
def incr : Int → List Int → Bool
 | _, [] => true
 | p, x :: l => decide (p < x) && (decide (x ≤ 7) && incr x l)
def mayL (l : List Int) : Bool := decide (0 < l.length) && incr 0 l
theorem incr_f1 {p x : Int} {l : List Int} (h : ¬ p < x) : incr p (x :: l) = false := by simp [incr, h]
theorem incr_f2 {p x : Int} {l : List Int} (h : ¬ x ≤ 7) : incr p (x :: l) = false := by simp [incr, h]
theorem incr_t {p x : Int} {l : List Int} (h1 : p < x) (h : x ≤ 7) : incr p (x :: l) = incr x l := by simp [incr, h1, h]
theorem conf_may_loop (l : List Int) (hl : l.length < 2^62) : ∀ (m i : Nat) (p : Int), i + m = l.length → 0 ≤ p → (i = 0 → p = 0) → (0 < i → l[i - 1]? = some p) →
  conf_May_J2 0 (ints l) (ints l) (.int .i64 l.length) (.int .i64 i) [] [] = some (.bool (decide (0 < l.length) && incr p (l.drop i)), [], [])
 | 0, i, p, h, hp, h0, h1 => by
  refine conf_May_J2_of ?_
  have e1 : ¬ ((i : Int) < (l.length : Int)) := by omega
  have e2 : l.drop i = [] := List.drop_eq_nil_of_le (by omega)
  simp only [lss_int, Option.bind_some, e1, decide_false, condK_f, e2, incr, lenV_ints, gtr_int, Bool.and_true]
  refine (endB_good rfl).trans ?_
  simp
 | m + 1, i, p, h, hp, h0, h1 => by
  refine conf_May_J2_of ?_
  have hi : i < l.length := by omega
  have e1 : ((i : Int) < (l.length : Int)) := by omega
  have e2 : l.drop i = l[i] :: l.drop (i + 1) := List.drop_eq_getElem_cons hi
  have e3 : IntKind.i64.wrap ((i : Int) + 1) = ((i + 1 : Nat) : Int) := w64 (by omega) (by omega)
  simp only [lss_int, Option.bind_some, e1, decide_true, condK_t, e2, ixA_ints (List.getElem?_eq_getElem hi), loadA_ip1, splitK_dec, gtr_int]
  generalize hx : l[i] = x
  split
  · rw [incr_f1 (by omega), Bool.and_false]; exact endB_good rfl
  · split
    · rw [incr_f2 (by omega), Bool.and_false]; exact endB_good rfl
    · split
      · rename_i h3 h4 h5
        have e4 : IntKind.i64.wrap ((i : Int) - 1) = ((i - 1 : Nat) : Int) := w64 (by omega) (by omega)
        simp only [sub_int, e4, Option.bind_some, ixA_ints (h1 (by omega)), loadA_ip1, leq_int, condK_dec]
        split
        · rw [incr_f1 (by omega), Bool.and_false]; exact endB_good rfl
        · rw [incr_t (by omega) (by omega)]
          simp only [add_int, Option.bind_some, e3]
          exact conf_may_loop l hl m (i + 1) x (by omega) (by omega) (by omega) (fun _ => by rw [Nat.add_sub_cancel, List.getElem?_eq_getElem hi, hx])
      · rename_i h3 h4 h5
        have := h0 (by omega)
        rw [incr_t (by omega) (by omega)]
        simp only [add_int, Option.bind_some, e3]
        exact conf_may_loop l hl m (i + 1) x (by omega) (by omega) (by omega) (fun _ => by rw [Nat.add_sub_cancel, List.getElem?_eq_getElem hi, hx])
theorem conf_May_ok (l : List Int) (hl : l.length < 2^62) : EV C n_conf_May [ints l] [] = some (.bool (mayL l), [], []) := by
 refine conf_May_of ?_
 simp only [lenV_ints, Option.bind_some]
 exact conf_may_loop l hl l.length 0 0 (by omega) (by omega) (by omega) (by omega)
theorem incr_len : ∀ (l : List Int) (p : Int), p ≤ 7 → incr p l = true → (l.length : Int) ≤ 7 - p
 | [], p, hp, h => by simp; omega
 | x :: l, p, hp, h => by
  simp only [incr, Bool.and_eq_true, decide_eq_true_eq] at h
  have := incr_len l x h.2.1 h.2.2
  simp only [List.length_cons]; omega
theorem ref17_may_loop (l : List Int) (hl : l.length < 2^62) : ∀ (m i : Nat) (p : Int), i + m = l.length → 0 ≤ p → (i = 0 → p = 0) → (0 < i → l[i - 1]? = some p) →
  ref17_May_J4 0 (ints l) (.int .i64 i) [] [] = some (.bool (incr p (l.drop i)), [], [])
 | 0, i, p, h, hp, h0, h1 => by
  refine ref17_May_J4_of ?_
  have e1 : ¬ ((i : Int) < (l.length : Int)) := by omega
  have e2 : l.drop i = [] := List.drop_eq_nil_of_le (by omega)
  simp only [lenV_ints, lss_int, Option.bind_some, e1, decide_false, condK_f, e2, incr]
  exact endB_good rfl
 | m + 1, i, p, h, hp, h0, h1 => by
  refine ref17_May_J4_of ?_
  have hi : i < l.length := by omega
  have e1 : ((i : Int) < (l.length : Int)) := by omega
  have e2 : l.drop i = l[i] :: l.drop (i + 1) := List.drop_eq_getElem_cons hi
  have e3 : IntKind.i64.wrap ((i : Int) + 1) = ((i + 1 : Nat) : Int) := w64 (by omega) (by omega)
  simp only [lenV_ints, lss_int, Option.bind_some, e1, decide_true, condK_t, e2, ixA_ints (List.getElem?_eq_getElem hi), loadA_ip1, splitK_dec, gtr_int]
  generalize hx : l[i] = x
  split
  · rw [incr_f1 (by omega)]; exact endB_good rfl
  · split
    · rw [incr_f2 (by omega)]; exact endB_good rfl
    · split
      · rename_i h3 h4 h5
        have e4 : IntKind.i64.wrap ((i : Int) - 1) = ((i - 1 : Nat) : Int) := w64 (by omega) (by omega)
        simp only [sub_int, e4, Option.bind_some, ixA_ints (h1 (by omega)), loadA_ip1, geq_int, condK_dec]
        split
        · rw [incr_f1 (by omega)]; exact endB_good rfl
        · rw [incr_t (by omega) (by omega)]
          simp only [add_int, Option.bind_some, e3]
          exact ref17_may_loop l hl m (i + 1) x (by omega) (by omega) (by omega) (fun _ => by rw [Nat.add_sub_cancel, List.getElem?_eq_getElem hi, hx])
      · rename_i h3 h4 h5
        have := h0 (by omega)
        rw [incr_t (by omega) (by omega)]
        simp only [add_int, Option.bind_some, e3]
        exact ref17_may_loop l hl m (i + 1) x (by omega) (by omega) (by omega) (fun _ => by rw [Nat.add_sub_cancel, List.getElem?_eq_getElem hi, hx])
theorem ref17_May_ok (l : List Int) (hl : l.length < 2^62) : EV C n_ref17_May [ints l] [] = some (.bool (mayL l), [], []) := by
 refine ref17_May_of ?_
 simp only [lenV_ints, Option.bind_some, lss_int, splitK_dec, gtr_int, condK_dec]
 split
 · refine (endB_good rfl).trans ?_
   have : ¬ 0 < l.length := by omega
   simp [mayL, this]
 · split
   · refine (endB_good rfl).trans ?_
     have : incr 0 l = false := by
      cases h : incr 0 l with
      | false => rfl
      | true => have := incr_len l 0 (by omega) h; omega
     simp [mayL, this]
   · have : 0 < l.length := by omega
     simp only [mayL, this, decide_true, Bool.true_and]
     exact ref17_may_loop l hl l.length 0 0 (by omega) (by omega) (by omega) (by omega)
/-- the members that bytes tell -/
def ofB (b : List UInt8) : List Int := b.map fun x => (x.toNat : Int)
theorem ofB_i64 (x : UInt8) : IntKind.i64.wrap (x.toNat : Int) = (x.toNat : Int) := by have := x.toNat_lt; exact w64 rfl (by omega)
theorem litI {H : List AObj} {a : Int} (K : AV → List AObj → List Nat → Option R3) : litK 1 1 (.int .i64 0) [(0, .int .i64 a)] H K = K (.lst ([a].map i64)) H [] := rfl
theorem conf_of_loop (b : List UInt8) (hb : b.length < 2^40) : ∀ (m i : Nat) (E : List Nat), i + m = b.length →
  conf_Of_J3 0 (.slc 0 0 i i) (bys b) (.int .i64 b.length) (.int .i64 i) [vro 1 ((ofB (b.take i)).map i64)] E = some (if mayL (ofB b) = true then .tup [ints (ofB b), .nili] else .tup [.lst [], .ifc t_api_Code (.int .i64 3)], [], [])
 | 0, i, E, h => by
  refine conf_Of_J3_of ?_
  have e1 : ¬ ((i : Int) < (b.length : Int)) := by omega
  have e2 : b.take i = b := List.take_of_length_le (by omega)
  have hf : frz [vro 1 ((ofB b).map i64)] (.slc 0 0 i i) = some (ints (ofB b)) := frz_vro (z := 1) rfl (by simp [ofB]; omega) (goodL_i64 _)
  simp only [lss_int, Option.bind_some, e1, decide_false, condK_f, e2]
  rw [callK_flat (bs := [ints (ofB b)]) (frzL_cons hf rfl) (by simp) (conf_May_ok _ (by simp [ofB]; omega)) rfl]
  simp only [not_bool, Option.bind_some]
  cases hm : mayL (ofB b) with
  | true =>
   simp only [Bool.not_true, condK_f, if_true]
   exact endB_frz (frz_tup (frzL_cons hf rfl)) (by simp)
  | false =>
   simp only [Bool.not_false, condK_t, Bool.false_eq_true, if_false]
   exact endB_frz rfl rfl
 | m + 1, i, E, h => by
  refine conf_Of_J3_of ?_
  have hi : i < b.length := by omega
  have e1 : ((i : Int) < (b.length : Int)) := by omega
  have e3 : IntKind.i64.wrap ((i : Int) + 1) = ((i + 1 : Nat) : Int) := w64 (by omega) (by omega)
  have e4 : ofB (b.take (i + 1)) = ofB (b.take i) ++ [(b[i].toNat : Int)] := by
   unfold ofB; rw [List.take_add_one, List.getElem?_eq_getElem hi, List.map_append]; rfl
  simp only [lss_int, Option.bind_some, e1, decide_true, condK_t, ixA_bys (List.getElem?_eq_getElem hi), loadA_ip1, u8, cvI_int, ofB_i64, litI]
  rw [appK_vro (n := i) (es := (ofB (b.take i)).map i64) (ys := [(b[i].toNat : Int)].map i64) rfl rfl (by simp [ofB]; omega) rfl (by decide) (by decide) (by decide) (by simp; omega)]
  simp only [add_int, Option.bind_some, e3]
  have := fun E => conf_of_loop b hb m (i + 1) E (by omega)
  simp only [e4, List.map_append] at this
  exact this _
theorem conf_Of_ok (b : List UInt8) (hb : b.length < 2^40) : EV C n_conf_Of [bys b] [] = some (if mayL (ofB b) = true then .tup [ints (ofB b), .nili] else .tup [.lst [], .ifc t_api_Code (.int .i64 3)], [], []) := by
 refine conf_Of_of ?_
 simp only [lenV_bys, Option.bind_some]
 exact conf_of_loop b hb b.length 0 [] (by omega)
theorem ref17_of_loop (b : List UInt8) (hb : b.length < 2^40) : ∀ (m i : Nat) (E : List Nat), i + m = b.length →
  ref17_Of_J5 0 (bys b) (.slc 0 0 i i) (.int .i64 i) [vro 1 ((ofB (b.take i)).map i64)] E = some (if mayL (ofB b) = true then .tup [ints (ofB b), .bool true] else .tup [.lst [], .bool false], [], [])
 | 0, i, E, h => by
  refine ref17_Of_J5_of ?_
  have e1 : ¬ ((i : Int) < (b.length : Int)) := by omega
  have e2 : b.take i = b := List.take_of_length_le (by omega)
  have hf : frz [vro 1 ((ofB b).map i64)] (.slc 0 0 i i) = some (ints (ofB b)) := frz_vro (z := 1) rfl (by simp [ofB]; omega) (goodL_i64 _)
  simp only [lenV_bys, lss_int, Option.bind_some, e1, decide_false, condK_f, e2]
  rw [callK_flat (bs := [ints (ofB b)]) (frzL_cons hf rfl) (by simp) (ref17_May_ok _ (by simp [ofB]; omega)) rfl]
  simp only [not_bool, Option.bind_some]
  cases hm : mayL (ofB b) with
  | true =>
   simp only [Bool.not_true, condK_f, if_true]
   exact endB_frz (frz_tup (frzL_cons hf rfl)) (by simp)
  | false =>
   simp only [Bool.not_false, condK_t, Bool.false_eq_true, if_false]
   exact endB_frz rfl rfl
 | m + 1, i, E, h => by
  refine ref17_Of_J5_of ?_
  have hi : i < b.length := by omega
  have e1 : ((i : Int) < (b.length : Int)) := by omega
  have e3 : IntKind.i64.wrap ((i : Int) + 1) = ((i + 1 : Nat) : Int) := w64 (by omega) (by omega)
  have e4 : ofB (b.take (i + 1)) = ofB (b.take i) ++ [(b[i].toNat : Int)] := by
   unfold ofB; rw [List.take_add_one, List.getElem?_eq_getElem hi, List.map_append]; rfl
  simp only [lenV_bys, lss_int, Option.bind_some, e1, decide_true, condK_t, ixA_bys (List.getElem?_eq_getElem hi), loadA_ip1, u8, cvI_int, ofB_i64, litI]
  rw [appK_vro (n := i) (es := (ofB (b.take i)).map i64) (ys := [(b[i].toNat : Int)].map i64) rfl rfl (by simp [ofB]; omega) rfl (by decide) (by decide) (by decide) (by simp; omega)]
  simp only [add_int, Option.bind_some, e3]
  have := fun E => ref17_of_loop b hb m (i + 1) E (by omega)
  simp only [e4, List.map_append] at this
  exact this _
theorem ref17_Of_ok (b : List UInt8) (hb : b.length < 2^40) : EV C n_ref17_Of [bys b] [] = some (if mayL (ofB b) = true then .tup [ints (ofB b), .bool true] else .tup [.lst [], .bool false], [], []) := by
 refine ref17_Of_of ?_
 simp only [lenV_bys, Option.bind_some, gtr_int, condK_dec]
 split
 · have : mayL (ofB b) = false := by
    cases h : incr 0 (ofB b) with
    | false => simp [mayL, h]
    | true => have := incr_len _ 0 (by omega) h; simp [ofB] at this; omega
   simp only [this, Bool.false_eq_true, if_false]
   exact endB_frz rfl rfl
 · exact ref17_of_loop b hb b.length 0 [] (by omega)
theorem ref17_same_loop (l : List Int) (hl : l.length < 2^62) : ∀ (m i : Nat) (E : List Nat), i + m = l.length →
  ref17_Same_J4 0 (ints l) (ints l) (.int .i64 i) [] E = some (.bool true, [], []) := by
 intro m
 induction m with
 | zero =>
  intro i E h
  refine ref17_Same_J4_of ?_
  have e1 : ¬ ((i : Int) < (l.length : Int)) := by omega
  simp only [lenV_ints, Option.bind_some, lss_int, e1, decide_false, condK_f]
  exact endB_good rfl
 | succ m ih =>
  intro i E h
  refine ref17_Same_J4_of ?_
  have hi : i < l.length := by omega
  have e1 : ((i : Int) < (l.length : Int)) := by omega
  have e3 : IntKind.i64.wrap ((i : Int) + 1) = ((i + 1 : Nat) : Int) := w64 (by omega) (by omega)
  simp only [lenV_ints, Option.bind_some, lss_int, e1, decide_true, condK_t, ixA_ints (List.getElem?_eq_getElem hi), loadA_ip1, neq_int, Bool.not_true, condK_f, add_int, e3]
  exact ih (i + 1) E (by omega)
theorem ref17_Same_ok (l : List Int) (hl : l.length < 2^62) : EV C n_ref17_Same [ints l, ints l] [] = some (.bool true, [], []) := by
 refine ref17_Same_of ?_
 simp only [lenV_ints, Option.bind_some, neq_int, decide_true, Bool.not_true, condK_f]
 exact ref17_same_loop l hl l.length 0 [] (by omega)
end Go.Pm
