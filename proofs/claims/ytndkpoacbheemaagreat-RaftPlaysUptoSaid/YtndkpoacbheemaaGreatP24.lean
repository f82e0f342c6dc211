/- A part of the proof: what the functions of the program answer, as plain lists and numbers. -/
import Derived.Test.YtndkpoacbheemaaGreatP23
namespace Go.Pm
open Go.Proofs
set_option linter.unusedVariables false
set_option linter.unusedSimpArgs false
def clones : List FuncId := [n_Clone_api_Entry, n_Clone_int]
theorem lz_i64 (l : List Int) : lz 1 (l.map i64) = true := by cases l <;> rfl
theorem eql_lst_nil (k : TypeId) (c : TypeId → Bool) (b : Bool) (e : AV) (es : List AV) : binA .eql (.slice k) c b (.lst (e :: es)) .nils = some (.bool false) := rfl
theorem appD_fresh {z by_ : Nat} {x y : AV} {ys : List AV} {H : List AObj} (hx : freshA x = true) (hy : elemsA y H = some ys) (hg : goodL ys = true) (hz : lz z ys = true) (h1 : 0 < z) (h2 : 0 < by_) (h3 : by_ ≤ 1048576) (h4 : ys.length * by_ ≤ 140737489400832) :
  appD z by_ x y H = some (.lst ys) := by
 unfold appD appF
 rw [hy, Option.bind_some, if_pos ⟨hx, hg, fun _ => ⟨hz, h1, h2, h3, h4⟩⟩]
theorem appK_fresh {β : Type} {z by_ : Nat} {x y : AV} {ys : List AV} {H : List AObj} {K : Kt β} (hx : x = .emp none ∨ x = .nils) (hy : elemsA y H = some ys) (hne : ys.isEmpty = false) (hz : lz z ys = true) (h1 : 0 < z) (h2 : 0 < by_) (h3 : by_ ≤ 1048576) (h4 : ys.length * by_ ≤ 140737489400832) :
  appK z by_ x y H K = K (.slc H.length 0 ys.length ys.length) (H ++ [.row z ys]) [] := by
 unfold appK appendA
 rw [hy, Option.bind_some]
 rcases hx with rfl | rfl <;> simp [hne, hz, h1, h2, h3, h4]
theorem Clone_int_ok (l : List Int) (h : l.length ≤ 2^40) : EV C n_Clone_int [ints l] [] = some (ints l, [], []) := by
 cases l with
 | nil =>
  refine clone_nil (C0 := C0) (l := clones) rfl rfl ?_ ?_
  · refine Clone_int_of ?_
    show endB false false 0 .nils [] [] = _
    exact endB_frz (u := .lst []) rfl rfl
  · refine Clone_int_of ?_
    show endB false false 0 (.lst []) [] [] = _
    exact endB_good rfl
 | cons x l =>
  rw [show ints (x :: l) = .lst (i64 x :: l.map i64) from rfl, clone_cons (C0 := C0) (l := clones) rfl rfl]
  refine Clone_int_of ?_
  simp only [eql_lst_nil, Option.bind_some, condK_f]
  rw [appD_fresh (ys := i64 x :: l.map i64) rfl rfl (goodL_i64 (x :: l)) (lz_i64 (x :: l)) (by decide) (by decide) (by decide) (by simp at h ⊢; omega), Option.bind_some]
  exact endB_good (good_ints (x :: l))
theorem Clone_api_Entry_ok (l : List Ent) (h : l.length ≤ 2^40) : EV C n_Clone_api_Entry [ents l] [] = some (ents l, [], []) := by
 cases l with
 | nil =>
  refine clone_nil (C0 := C0) (l := clones) rfl rfl ?_ ?_
  · refine Clone_api_Entry_of ?_
    show endB false false 0 .nils [] [] = _
    exact endB_frz (u := .lst []) rfl rfl
  · refine Clone_api_Entry_of ?_
    show endB false false 0 (.lst []) [] [] = _
    exact endB_good rfl
 | cons x l =>
  rw [show ents (x :: l) = .lst (Ent.av x :: l.map Ent.av) from rfl, clone_cons (C0 := C0) (l := clones) rfl rfl]
  refine Clone_api_Entry_of ?_
  simp only [eql_lst_nil, Option.bind_some, condK_f]
  rw [appD_fresh (ys := Ent.av x :: l.map Ent.av) rfl rfl (goodL_ents (x :: l)) (lz_ents (x :: l)) (by decide) (by decide) (by decide) (by simp at h ⊢; omega), Option.bind_some]
  exact endB_good (good_ents (x :: l))
/-- the clone as a row of one's own, or a fresh empty slice -/
def clR (H : List AObj) (z : Nat) (es : List AV) : AV × List AObj × List Nat := match es with
 | [] => (.emp none, H, [])
 | es => (.slc H.length 0 es.length es.length, H ++ [.row z es], [])
theorem Clone_int_r_ok (l : List Int) (h : l.length ≤ 2^40) (H : List AObj) : EV C n_Clone_int_r [ints l] H = some (clR H 1 (l.map i64)) := by
 cases l with
 | nil =>
  refine clone_fresh (C0 := C0) (l := [n_Clone_int_r]) rfl rfl ?_ ?_
  · refine Clone_int_r_of ?_
    rfl
  · refine Clone_int_r_of ?_
    rfl
 | cons x l =>
  rw [show ints (x :: l) = .lst (i64 x :: l.map i64) from rfl, clone_cons (C0 := C0) (l := [n_Clone_int_r]) rfl rfl]
  refine Clone_int_r_of ?_
  simp only [eql_lst_nil, Option.bind_some, condK_f]
  rw [appK_fresh (ys := i64 x :: l.map i64) (.inl rfl) rfl rfl (lz_i64 (x :: l)) (by decide) (by decide) (by decide) (by simp at h ⊢; omega)]
  exact endB_raw
theorem Clone_api_Entry_r_ok (l : List Ent) (h : l.length ≤ 2^40) (H : List AObj) : EV C n_Clone_api_Entry_r [ents l] H = some (clR H 3 (l.map Ent.av)) := by
 cases l with
 | nil =>
  refine clone_fresh (C0 := C0) (l := [n_Clone_api_Entry_r]) rfl rfl ?_ ?_
  · refine Clone_api_Entry_r_of ?_
    rfl
  · refine Clone_api_Entry_r_of ?_
    rfl
 | cons x l =>
  rw [show ents (x :: l) = .lst (Ent.av x :: l.map Ent.av) from rfl, clone_cons (C0 := C0) (l := [n_Clone_api_Entry_r]) rfl rfl]
  refine Clone_api_Entry_r_of ?_
  simp only [eql_lst_nil, Option.bind_some, condK_f]
  rw [appK_fresh (ys := Ent.av x :: l.map Ent.av) (.inl rfl) rfl rfl (lz_ents (x :: l)) (by decide) (by decide) (by decide) (by simp at h ⊢; omega)]
  exact endB_raw
theorem Grow_api_Entry_ok (n : Nat) (h0 : 0 < n) (h1 : n ≤ 2^40) (H : List AObj) : EV C n_Grow_api_Entry [.nils, .int .i64 n] H = some (.slc (H.length + 1) 0 0 0, H ++ [.dead, .row 3 []], []) := by
 refine Grow_api_Entry_of ?_
 have e0 : ¬ ((n : Int) < 0) := by omega
 have e1 : (0 : Int) < (n : Int) := by omega
 have w0 : IntKind.i64.wrap ((0 : Int) - 0) = 0 := by decide
 have w1 : IntKind.i64.wrap ((n : Int) - 0) = n := by rw [wrap64] <;> omega
 have l0 : ∀ H, lenV .nils H = some (.int .i64 0) := fun H => rfl
 have c1 : cutA 3 .nils none (some (.int .i64 0)) none H = some .nils := rfl
 simp only [lss_int, Option.bind_some, e0, decide_false, condK_f, capA, l0, sub_int, w0, w1, gtr_int, e1, decide_true, condK_t, c1]
 have z1 : appZ 3 40 (.agg [(.int .i64 0), (.int .i64 0), .nils]) .nils (.int .i64 n) H = some (.slc H.length 0 n n, H ++ [.row 3 (List.replicate n (.agg [(.int .i64 0), (.int .i64 0), .nils]))], []) := by
  have : (n : Int) * 40 ≤ 140737489400832 := by omega
  simp [appZ, e1, this, AV.cells, AV.one]
  omega
 simp only [zapK, z1, Option.bind_some, l0]
 have c2 : cutA 3 (.slc H.length 0 n n) none (some (.int .i64 0)) none (H ++ [.row 3 (List.replicate n (.agg [(.int .i64 0), (.int .i64 0), .nils]))]) = some (.slc H.length 0 0 n) := by
  simp [cutA, lenA, lenOf, boundA]
 simp only [c2, Option.bind_some, trmK, trimA]
 simp [endB_raw]
theorem Grow_api_Entry_0 (H : List AObj) : EV C n_Grow_api_Entry [.nils, .int .i64 ((0 : Nat) : Int)] H = some (.nils, H, []) := by
 show EV C n_Grow_api_Entry [.nils, .int .i64 0] H = _
 refine Grow_api_Entry_of ?_
 have w0 : IntKind.i64.wrap ((0 : Int) - 0) = 0 := by decide
 have l0 : ∀ H, lenV .nils H = some (.int .i64 0) := fun H => rfl
 simp only [lss_int, Option.bind_some, Int.lt_irrefl, decide_false, condK_f, capA, l0, sub_int, w0, gtr_int]
 exact endB_raw
theorem Concat_api_Entry_tf {ls : List (List Ent)} {i : Nat} (h : i < ls.length) : (ls.take (i + 1)).flatten = (ls.take i).flatten ++ ls[i] := by
 rw [List.take_add_one, List.getElem?_eq_getElem h, List.flatten_append]; simp only [Option.toList, List.flatten_cons, List.flatten_nil, List.append_nil]
theorem Concat_api_Entry_fl {ls : List (List Ent)} {i : Nat} : (ls.take i).flatten.length ≤ ls.flatten.length := by
 conv => rhs; rw [← List.take_append_drop i ls]
 rw [List.flatten_append, List.length_append]; omega
theorem Concat_api_Entry_rows {ls : List (List Ent)} (hl : ls.length < 2^62) (ht : ls.flatten.length ≤ 2^40) : ∀ (m i : Nat) (E : List Nat), i + m = ls.length →
  Concat_api_Entry_J11 0 (.slc 1 0 (ls.take i).flatten.length (ls.take i).flatten.length) (.lst (ls.map ents)) (.int .i64 ls.length) (.int .i64 i) [.dead, .row 3 ((ls.take i).flatten.map Ent.av)] E = some (ents ls.flatten, [], [])
 | 0, i, E, h => by
  refine Concat_api_Entry_J11_of ?_
  have e1 : ¬ ((i : Int) < (ls.length : Int)) := by omega
  simp only [lss_int, Option.bind_some, e1, decide_false, condK_f]
  have e2 : ls.take i = ls := List.take_of_length_le (by omega)
  rw [e2]
  exact endB_frz (frz_row (z := 3) rfl (List.length_map _).symm (goodL_ents _)) (good_ents _)
 | m + 1, i, E, h => by
  refine Concat_api_Entry_J11_of ?_
  have hi : i < ls.length := by omega
  have e1 : ((i : Int) < (ls.length : Int)) := by omega
  have e3 : IntKind.i64.wrap ((i : Int) + 1) = ((i + 1 : Nat) : Int) := by rw [wrap64] <;> omega
  have hf := Concat_api_Entry_fl (ls := ls) (i := i + 1)
  have ht' := Concat_api_Entry_tf hi
  rw [ht', List.length_append] at hf
  have he : ∀ (l : List Ent) (H : List AObj), elemsA (ents l) H = some (l.map Ent.av) := fun l H => rfl
  simp only [lss_int, Option.bind_some, e1, decide_true, condK_t, ixA_map (f := ents) (fun _ => rfl) (List.getElem?_eq_getElem hi), loadA_ip1]
  rw [appK_row (es := (ls.take i).flatten.map Ent.av) (ys := ls[i].map Ent.av) (he _ _) rfl (List.length_map _).symm (lz_ents _) (by decide) (by decide) (by decide) (by rw [List.length_map]; omega), esc_good (goodL_ents _)]
  simp only [add_int, Option.bind_some, e3]
  have := Concat_api_Entry_rows hl ht m (i + 1) (([] ++ []) ++ E) (by omega)
  rw [ht', List.map_append, List.length_append] at this
  rw [List.length_map]
  exact this
theorem Concat_api_Entry_nils {ls : List (List Ent)} (hl : ls.length < 2^62) (ht : ls.flatten = []) : ∀ (m i : Nat) (E : List Nat), i + m = ls.length →
  Concat_api_Entry_J11 0 .nils (.lst (ls.map ents)) (.int .i64 ls.length) (.int .i64 i) [] E = some (ents [], [], [])
 | 0, i, E, h => by
  refine Concat_api_Entry_J11_of ?_
  have e1 : ¬ ((i : Int) < (ls.length : Int)) := by omega
  simp only [lss_int, Option.bind_some, e1, decide_false, condK_f]
  exact endB_frz rfl (good_ents [])
 | m + 1, i, E, h => by
  refine Concat_api_Entry_J11_of ?_
  have hi : i < ls.length := by omega
  have e1 : ((i : Int) < (ls.length : Int)) := by omega
  have e3 : IntKind.i64.wrap ((i : Int) + 1) = ((i + 1 : Nat) : Int) := by rw [wrap64] <;> omega
  have e4 : ls[i] = [] := by
   have := List.flatten_eq_nil_iff.1 ht ls[i] (List.getElem_mem hi)
   exact this
  simp only [lss_int, Option.bind_some, e1, decide_true, condK_t, ixA_map (f := ents) (fun _ => rfl) (List.getElem?_eq_getElem hi), loadA_ip1, e4]
  have e5 : ∀ (K : AV → List AObj → List Nat → Option R3), appK 3 40 .nils (ents []) [] K = K .nils [] [] := fun K => rfl
  rw [e5]
  simp only [add_int, Option.bind_some, e3]
  exact Concat_api_Entry_nils hl ht m (i + 1) _ (by omega)
theorem Concat_api_Entry_sum {ls : List (List Ent)} (hl : ls.length < 2^62) (ht : ls.flatten.length ≤ 2^40) : ∀ (m i : Nat), i + m = ls.length →
  Concat_api_Entry_J3 0 (.lst (ls.map ents)) (.int .i64 (ls.take i).flatten.length) (.lst (ls.map ents)) (.int .i64 ls.length) (.int .i64 i) [] [] = some (ents ls.flatten, [], [])
 | 0, i, h => by
  refine Concat_api_Entry_J3_of ?_
  have e1 : ¬ ((i : Int) < (ls.length : Int)) := by omega
  simp only [lss_int, Option.bind_some, e1, decide_false, condK_f]
  have e2 : ls.take i = ls := List.take_of_length_le (by omega)
  rw [e2]
  have hlen : ∀ H, lenV (.lst (ls.map ents)) H = some (.int .i64 ls.length) := fun H => by simp
  rcases Nat.eq_zero_or_pos ls.flatten.length with h0 | h0
  · rw [h0, callK_raw (Grow_api_Entry_0 [])]
    simp only [hlen, Option.bind_some]
    rw [List.length_eq_zero_iff.1 h0]
    exact Concat_api_Entry_nils hl (List.length_eq_zero_iff.1 h0) ls.length 0 _ (by omega)
  · rw [callK_raw (Grow_api_Entry_ok _ h0 ht [])]
    simp only [hlen, Option.bind_some]
    exact Concat_api_Entry_rows hl ht ls.length 0 _ (by omega)
 | m + 1, i, h => by
  refine Concat_api_Entry_J3_of ?_
  have hi : i < ls.length := by omega
  have e1 : ((i : Int) < (ls.length : Int)) := by omega
  have e3 : IntKind.i64.wrap ((i : Int) + 1) = ((i + 1 : Nat) : Int) := by rw [wrap64] <;> omega
  have hf := Concat_api_Entry_fl (ls := ls) (i := i + 1)
  have ht' := Concat_api_Entry_tf hi
  have e4 : IntKind.i64.wrap (((ls.take i).flatten.length : Int) + (ls[i].length : Int)) = ((ls.take (i + 1)).flatten.length : Int) := by
    rw [ht', List.length_append] at hf ⊢
    rw [wrap64] <;> omega
  have e5 : ¬ (((ls.take (i + 1)).flatten.length : Int) < 0) := by omega
  simp only [lss_int, Option.bind_some, e1, decide_true, condK_t, ixA_map (f := ents) (fun _ => rfl) (List.getElem?_eq_getElem hi), loadA_ip1, lenV_ents, add_int, e4, e5, decide_false, condK_f, e3]
  exact Concat_api_Entry_sum hl ht m (i + 1) (by omega)
theorem Concat_api_Entry_ok (ls : List (List Ent)) (hl : ls.length < 2^62) (ht : ls.flatten.length ≤ 2^40) : EV C n_Concat_api_Entry [.lst (ls.map ents)] [] = some (ents ls.flatten, [], []) := by
 refine Concat_api_Entry_of ?_
 have hlen : ∀ H, lenV (.lst (ls.map ents)) H = some (.int .i64 ls.length) := fun H => by simp
 simp only [hlen, Option.bind_some]
 exact Concat_api_Entry_sum hl ht ls.length 0 (by omega)
end Go.Pm
