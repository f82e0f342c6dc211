/- A part of the proof: what the functions of the program answer, as plain lists and numbers. -/
import Derived.Test.YtndkpoacbheemaaGreatP7
import Derived.Test.YtndkpoacbheemaaGreatP27
namespace Go.Pm
open Go.Proofs
set_option linter.unusedVariables false
set_option linter.unusedSimpArgs false
def inF (n a b : Int) : Bool := decide (a ≤ n) && decide (n ≤ b)
theorem in_ok (n a b : Int) : EV C n_raft_in [.int .i64 n, .int .i64 a, .int .i64 b] [] = some (.bool (inF n a b), [], []) := by
 refine raft_in_of ?_
 simp -implicitDefEqProofs only [geq_int, leq_int, Option.bind_some, splitK_dec]
 unfold inF
 by_cases h : a ≤ n
 · rw [if_pos h]
   refine (endB_good rfl).trans ?_
   simp [h]
 · rw [if_neg h]
   refine (endB_good rfl).trans ?_
   simp [h]
def cntF (n : Int) : Bool := inF n 0 1152921504606846976
theorem count19_ok (n : Int) : EV C n_ref19_count [.int .i64 n] [] = some (.bool (cntF n), [], []) := by
 refine ref19_count_of ?_
 simp -implicitDefEqProofs only [geq_int, leq_int, Option.bind_some, splitK_dec]
 unfold cntF inF
 by_cases h : (0 : Int) ≤ n
 · rw [if_pos h]
   refine (endB_good rfl).trans ?_
   simp [h]
 · rw [if_neg h]
   refine (endB_good rfl).trans ?_
   simp [h]
/-- a timeout by a draw -/
def toF (d : Int) : Int := 10 + d % 10
theorem ix_ints {l : List Int} {i : Nat} (h : i < l.length) (H : List AObj) : ixA 1 (ints l) (.int .i64 (i : Int)) H = some (.ip [.int .i64 l[i]]) :=
 ixA_ints (List.getElem?_eq_getElem h)
theorem ld_i (n : Int) (H : List AObj) : loadA false 1 (.ip [.int .i64 n]) H = some (.int .i64 n) := rfl
def hasF (l : List Int) (x : Int) : Bool := l.any fun y => y == x
theorem has17_J2 (l : List Int) (x : Int) (hl : l.length ≤ 2^60) : ∀ (m i : Nat) (H : List AObj) (E : List Nat), i + m = l.length →
  ref17_Has_J2 0 (ints l) (.int .i64 x) (.int .i64 (i : Int)) H E = some (.bool (hasF (l.drop i) x), [], [])
 | 0, i, H, E, hi => by
  refine ref17_Has_J2_of ?_
  simp -implicitDefEqProofs only [lenV_ints, lss_int, Option.bind_some, condK_dec]
  rw [if_neg (by omega), List.drop_eq_nil_of_le (by omega)]
  exact endB_good rfl
 | m + 1, i, H, E, hi => by
  refine ref17_Has_J2_of ?_
  have h : i < l.length := by omega
  simp -implicitDefEqProofs only [lenV_ints, lss_int, Option.bind_some, condK_dec]
  rw [if_pos (by omega), ix_ints h, Option.bind_some, ld_i, Option.bind_some]
  simp -implicitDefEqProofs only [eql_int, add_int, Option.bind_some, condK_dec]
  rw [List.drop_eq_getElem_cons h]
  by_cases e : l[i] = x
  · rw [if_pos e]
    refine (endB_good rfl).trans ?_
    simp [hasF, e]
  · rw [if_neg e, show IntKind.i64.wrap ((i : Int) + 1) = ((i + 1 : Nat) : Int) from by rw [wrap64 (by omega) (by omega)]; omega, has17_J2 l x hl m (i + 1) H E (by omega)]
    simp only [hasF, List.any_cons]
    rw [show (l[i] == x) = false from by simpa using e]; rfl
theorem has17_ok (l : List Int) (x : Int) (hl : l.length ≤ 2^60) : EV C n_ref17_Has [ints l, .int .i64 x] [] = some (.bool (hasF l x), [], []) :=
 ref17_Has_of (by simpa using has17_J2 l x hl l.length 0 [] [] (by omega))
/-- the place, counted from i on -/
def idxFrom (i : Nat) : List Int → Int → Int
 | [], _ => -1
 | y :: l, x => if x = y then (i : Int) else idxFrom (i + 1) l x
theorem idxFrom_has (x : Int) : ∀ (l : List Int) (i : Nat), (0 ≤ idxFrom i l x ↔ hasF l x = true) ∧ -1 ≤ idxFrom i l x
 | [], i => by simp [idxFrom, hasF]
 | y :: l, i => by
  have ih := idxFrom_has x l (i + 1)
  unfold idxFrom
  by_cases e : x = y
  · rw [if_pos e]; subst e; simp [hasF]
  · rw [if_neg e]
    refine ⟨ih.1.trans ?_, ih.2⟩
    simp only [hasF, List.any_cons]
    rw [show (y == x) = false from by simpa using fun h => e h.symm]; simp
theorem index_J2 (l : List Int) (x : Int) (hl : l.length ≤ 2^60) : ∀ (m i : Nat) (H : List AObj) (E : List Nat), i + m = l.length →
  Index_int_J2 0 (ints l) (.int .i64 x) (.int .i64 (l.length : Int)) (.int .i64 (i : Int)) H E = some (.int .i64 (idxFrom i (l.drop i) x), [], [])
 | 0, i, H, E, hi => by
  refine Index_int_J2_of ?_
  simp -implicitDefEqProofs only [lss_int, Option.bind_some, condK_dec]
  rw [if_neg (by omega), List.drop_eq_nil_of_le (by omega)]
  exact endB_good rfl
 | m + 1, i, H, E, hi => by
  refine Index_int_J2_of ?_
  have h : i < l.length := by omega
  simp -implicitDefEqProofs only [lss_int, Option.bind_some, condK_dec]
  rw [if_pos (by omega), ix_ints h, Option.bind_some, ld_i, Option.bind_some]
  simp -implicitDefEqProofs only [eql_int, add_int, Option.bind_some, condK_dec]
  rw [List.drop_eq_getElem_cons h, idxFrom]
  by_cases e : x = l[i]
  · rw [if_pos e, if_pos e]
    exact endB_good rfl
  · rw [if_neg e, if_neg e, show IntKind.i64.wrap ((i : Int) + 1) = ((i + 1 : Nat) : Int) from by rw [wrap64 (by omega) (by omega)]; omega, index_J2 l x hl m (i + 1) H E (by omega)]
theorem index_ok (l : List Int) (x : Int) (hl : l.length ≤ 2^60) : EV C n_Index_int [ints l, .int .i64 x] [] = some (.int .i64 (idxFrom 0 l x), [], []) := by
 refine Index_int_of ?_
 dsimp only
 rw [lenV_ints, Option.bind_some]
 simpa using index_J2 l x hl l.length 0 [] [] (by omega)
theorem contains_ok (l : List Int) (x : Int) (hl : l.length ≤ 2^60) : EV C n_Contains_int [ints l, .int .i64 x] [] = some (.bool (hasF l x), [], []) := by
 refine Contains_int_of ?_
 dsimp only
 rw [callK_ok (by simp [goodL, AV.good]) (index_ok l x hl)]
 simp -implicitDefEqProofs only [geq_int, Option.bind_some]
 refine (endB_good rfl).trans ?_
 have := (idxFrom_has x l 0).1
 congr 3
 cases hh : hasF l x with
 | true => rw [hh] at this; simpa using this.2 rfl
 | false => rw [hh] at this; simpa using fun h => this.1 h
theorem confHas_ok (l : List Int) (x : Int) (hl : l.length ≤ 2^60) : EV C n_conf_Has [ints l, .int .i64 x] [] = some (.bool (hasF l x), [], []) := by
 refine conf_Has_of ?_
 dsimp only
 rw [callK_ok (by simp [goodL, AV.good]) (contains_ok l x hl)]
 exact endB_good rfl
end Go.Pm
namespace Go.Pm
open Go.Proofs
set_option linter.unusedVariables false
set_option linter.unusedSimpArgs false
def cntIn (l ids : List Int) : Nat := (l.filter fun x => hasF ids x).length
theorem cntIn_le (l ids : List Int) : cntIn l ids ≤ l.length := List.length_filter_le _ _
theorem cntIn_cons (a : Int) (l ids : List Int) : cntIn (a :: l) ids = (if hasF ids a = true then 1 else 0) + cntIn l ids := by
 unfold cntIn
 rw [List.filter_cons]
 split <;> simp <;> omega
def mostF (l ids : List Int) : Bool := mayL l && decide (2 * (cntIn l ids : Int) > (l.length : Int))
theorem most_J3 (l ids : List Int) (hl : l.length ≤ 2^60) (hi : ids.length ≤ 2^60) : ∀ (m i c : Nat) (H : List AObj) (E : List Nat), i + m = l.length → c + cntIn (l.drop i) ids = cntIn l ids →
  conf_Most_J3 0 (ints l) (ints ids) (.int .i64 (c : Int)) (ints l) (.int .i64 (l.length : Int)) (.int .i64 (i : Int)) H E = some (.bool (mostF l ids), [], [])
 | 0, i, c, H, E, h, hc => by
  refine conf_Most_J3_of ?_
  simp -implicitDefEqProofs only [lss_int, Option.bind_some, condK_dec]
  rw [List.drop_eq_nil_of_le (by omega)] at hc
  have hc' : c = cntIn l ids := by simpa [cntIn] using hc
  have hle := cntIn_le l ids
  rw [if_neg (by omega), callK_ok (by simp [goodL]) (conf_May_ok l (by omega))]
  unfold mostF
  cases hm : mayL l with
  | false => simp only [splitK_f]; exact endB_good rfl
  | true =>
   simp -implicitDefEqProofs only [splitK_t, mul_int, lenV_ints, gtr_int, Option.bind_some]
   rw [wrap64 (by omega) (by omega), hc']
   refine (endB_good rfl).trans ?_
   simp
 | m + 1, i, c, H, E, h, hc => by
  refine conf_Most_J3_of ?_
  have hlt : i < l.length := by omega
  have hle := cntIn_le l ids
  simp -implicitDefEqProofs only [lss_int, Option.bind_some, condK_dec]
  rw [List.drop_eq_getElem_cons hlt, cntIn_cons] at hc
  rw [if_pos (by omega), ix_ints hlt, Option.bind_some, ld_i, Option.bind_some, callK_ok (by simp [goodL, AV.good]) (confHas_ok ids _ hi)]
  have e3 : IntKind.i64.wrap ((i : Int) + 1) = ((i + 1 : Nat) : Int) := w64 (by omega) (by omega)
  cases hh : hasF ids l[i] with
  | true =>
   rw [hh] at hc
   have e4 : IntKind.i64.wrap ((c : Int) + 1) = ((c + 1 : Nat) : Int) := w64 (by omega) (by simp at hc; omega)
   simp -implicitDefEqProofs only [condK_t, add_int, e3, e4, Option.bind_some]
   exact most_J3 l ids hl hi m (i + 1) (c + 1) _ _ (by omega) (by simp at hc; omega)
  | false =>
   rw [hh] at hc
   simp -implicitDefEqProofs only [condK_f, add_int, e3, Option.bind_some]
   exact most_J3 l ids hl hi m (i + 1) c _ _ (by omega) (by simp at hc; omega)
theorem most_ok (l ids : List Int) (hl : l.length ≤ 2^60) (hi : ids.length ≤ 2^60) : EV C n_conf_Most [ints l, ints ids] [] = some (.bool (mostF l ids), [], []) := by
 refine conf_Most_of ?_
 dsimp only
 rw [lenV_ints, Option.bind_some]
 simpa using most_J3 l ids hl hi l.length 0 0 [] [] (by omega) (by simp)
end Go.Pm
namespace Go.Pm
open Go.Proofs
set_option linter.unusedVariables false
set_option linter.unusedSimpArgs false
theorem rem10 (dd : TypeDesc) (c : TypeId → Bool) (b : Bool) (d : Int) : binA .rem dd c b (.int .i64 d) (.int .i64 10) = some (.int .i64 (d.tmod 10)) := by
 simp [binA]
theorem tm_bounds (d : Int) : -10 < d.tmod 10 ∧ d.tmod 10 < 10 := by
 constructor
 · have := Int.lt_tmod_of_pos d (show (0 : Int) < 10 by decide); omega
 · exact Int.tmod_lt_of_pos d (by decide)
theorem tm_emod (d : Int) : d % 10 = if d.tmod 10 < 0 then d.tmod 10 + 10 else d.tmod 10 := by
 have h := Int.tmod_add_mul_tdiv d 10
 have b := tm_bounds d
 split <;> omega
theorem timeout_ok (d : Int) : EV C n_raft_timeout [.int .i64 d] [] = some (.int .i64 (toF d), [], []) := by
 have b := tm_bounds d
 have e := tm_emod d
 refine raft_timeout_of ?_
 simp -implicitDefEqProofs only [rem10, Option.bind_some, lss_int, condK_dec, add_int]
 by_cases h : d.tmod 10 < 0
 · rw [if_pos h] at e
   rw [if_pos h, wrap64 (n := d.tmod 10 + 10) (by omega) (by omega), wrap64 (by omega) (by omega)]
   refine (endB_good rfl).trans ?_
   unfold toF; rw [e]
 · rw [if_neg h] at e
   rw [if_neg h, wrap64 (by omega) (by omega)]
   refine (endB_good rfl).trans ?_
   unfold toF; rw [e]
theorem rtimeout_ok (d : Int) : EV C n_ref19_timeout [.int .i64 d] [] = some (.int .i64 (toF d), [], []) := by
 have b := tm_bounds d
 have e := tm_emod d
 refine ref19_timeout_of ?_
 simp -implicitDefEqProofs only [rem10, Option.bind_some, add_int]
 rw [wrap64 (n := d.tmod 10 + 10) (by omega) (by omega)]
 have e2 : (d.tmod 10 + 10).tmod 10 = d % 10 := by
  rw [Int.tmod_eq_emod_of_nonneg (by omega), e]
  split <;> omega
 rw [e2, wrap64 (by omega) (by omega)]
 exact endB_good rfl
end Go.Pm
namespace Go.Pm
open Go.Proofs
set_option linter.unusedVariables false
set_option linter.unusedSimpArgs false
structure Nde where
 id : Int
 term : Int
 voted : Int
 role : Int
 leader : Int
 log : Lg
 commit : Int
 votes : List Int
 next : List Int
 mtch : List Int
 ticks : Int
 timeout : Int
def Nde.cs (n : Nde) : List AV := [.int .i64 n.id, .int .i64 n.term, .int .i64 n.voted, .int .i64 n.role, .int .i64 n.leader, .int .i64 n.log.index, .int .i64 n.log.term, ints n.log.mems, ents n.log.es, .int .i64 n.commit, ints n.votes] ++ (n.next.map i64 ++ (n.mtch.map i64 ++ [.int .i64 n.ticks, .int .i64 n.timeout]))
def Nde.av (n : Nde) : AV := .agg n.cs
/-- both tables have eight places -/
structure Nde.wf (n : Nde) : Prop where
 ln : n.next.length = 8
 lm : n.mtch.length = 8
theorem Nde.len {n : Nde} (h : n.wf) : n.cs.length = 29 := by
 simp [Nde.cs, h.ln, h.lm]
theorem goodL_append (a b : List AV) : goodL (a ++ b) = (goodL a && goodL b) := by
 induction a with
 | nil => rfl
 | cons x a ih => simp only [List.cons_append, goodL, ih, Bool.and_assoc]
theorem Nde.good (n : Nde) : n.av.good = true := by
 unfold Nde.av Nde.cs
 simp only [AV.good, goodL_append, goodL_i64]
 simp [goodL]
theorem ld_fld {H : List AObj} {l z j : Nat} {cs : List AV} {v : AV} (h : H[l]? = some (.row z [.agg cs])) (hv : cs[j]? = some v) : loadA false 1 (.ptr l 1 0 j) H = some v := by
 unfold loadA
 simp only [h, List.length_singleton, if_true, List.getElem?_cons_zero, Option.bind_some, AV.cells, ldv, Bool.false_eq_true, if_false, List.getElem?_drop, Nat.add_zero, hv]
def Nde.row (n : Nde) : AObj := .row 29 [n.av]
theorem nd_next {n : Nde} (h : n.wf) {i : Nat} (hi : i < 8) : n.cs[11 + i]? = some (.int .i64 (n.next[i]'(by rw [h.ln]; exact hi))) := by
 unfold Nde.cs
 rw [List.getElem?_append_right (by simp), List.getElem?_append_left (by simp [h.ln]; omega)]
 simp [i64, h.ln, hi]
theorem nd_mtch {n : Nde} (h : n.wf) {i : Nat} (hi : i < 8) : n.cs[19 + i]? = some (.int .i64 (n.mtch[i]'(by rw [h.lm]; exact hi))) := by
 unfold Nde.cs
 rw [List.getElem?_append_right (by simp; omega), List.getElem?_append_right (by simp [h.ln]; omega), List.getElem?_append_left (by simp [h.ln, h.lm]; omega)]
 have e : 19 + i - 11 - 8 = i := by omega
 simp [i64, h.ln, h.lm, hi, e]
theorem nd_ticks {n : Nde} (h : n.wf) : n.cs[27]? = some (.int .i64 n.ticks) := by
 unfold Nde.cs
 rw [List.getElem?_append_right (by simp), List.getElem?_append_right (by simp [h.ln]), List.getElem?_append_right (by simp [h.ln, h.lm])]
 simp [h.ln, h.lm]
theorem nd_timeout {n : Nde} (h : n.wf) : n.cs[28]? = some (.int .i64 n.timeout) := by
 unfold Nde.cs
 rw [List.getElem?_append_right (by simp), List.getElem?_append_right (by simp [h.ln]), List.getElem?_append_right (by simp [h.ln, h.lm])]
 simp [h.ln, h.lm]
end Go.Pm
namespace Go.Pm
open Go.Proofs
set_option linter.unusedVariables false
set_option linter.unusedSimpArgs false
def votesB (pre : List Int) : List Int → Bool
 | [] => true
 | v :: r => inF v 1 7 && !hasF pre v && votesB (pre ++ [v]) r
def formA (b : Bool) : AV := if b = true then .nili else .ifc t_api_Code (.int .i64 3)
theorem cut_ints {l : List Int} {i : Nat} (h : i ≤ l.length) (H : List AObj) : cutA 1 (ints l) none (some (.int .i64 (i : Int))) none H = some (ints (l.take i)) := by
 have lz1 : ∀ l : List Int, lz 1 (l.map i64) = true := fun l => by cases l <;> rfl
 unfold ints
 simp only [cutA, lenA, Option.bind_some, boundA, List.length_map, lz1]
 simp [h, List.map_take]
theorem check_J11 (n : Nde) (hv : n.votes.length ≤ 2^60) : ∀ (m i : Nat) (ok : Bool) (H : List AObj) (E : List Nat), i + m = n.votes.length → H[0]? = some n.row →
  raft_Check_J11 0 (.ptr 0 1 0 0) (.bool ok) (ints n.votes) (.int .i64 (n.votes.length : Int)) (.int .i64 (i : Int)) H E = some (formA (ok && votesB (n.votes.take i) (n.votes.drop i)), [], [])
 | 0, i, ok, H, E, hi, h => by
  refine raft_Check_J11_of ?_
  simp -implicitDefEqProofs only [lss_int, Option.bind_some, condK_dec]
  rw [if_neg (by omega), List.drop_eq_nil_of_le (by omega), not_bool, Option.bind_some]
  cases ok with
  | true => simp only [Bool.not_true, condK_f]; exact endB_good rfl
  | false => simp only [Bool.not_false, condK_t]; exact endB_good rfl
 | m + 1, i, ok, H, E, hi, h => by
  refine raft_Check_J11_of ?_
  have hlt : i < n.votes.length := by omega
  have e3 : IntKind.i64.wrap ((i : Int) + 1) = ((i + 1 : Nat) : Int) := w64 (by omega) (by omega)
  have tk : n.votes.take (i + 1) = n.votes.take i ++ [n.votes[i]] := List.take_succ_eq_append_getElem hlt
  simp -implicitDefEqProofs only [lss_int, Option.bind_some, condK_dec]
  rw [if_pos (by omega), ix_ints hlt, Option.bind_some, ld_i, Option.bind_some, List.drop_eq_getElem_cons hlt, votesB, ← tk]
  cases ok with
  | false =>
   simp -implicitDefEqProofs only [splitK_f, add_int, Option.bind_some, e3]
   rw [check_J11 n hv m (i + 1) false H E (by omega) h]; simp
  | true =>
   simp -implicitDefEqProofs only [splitK_t]
   rw [callK_ok (by simp [goodL, AV.good]) (in_ok _ 1 7)]
   cases hin : inF n.votes[i] 1 7 with
   | false =>
    simp -implicitDefEqProofs only [splitK_f, add_int, Option.bind_some, e3]
    rw [check_J11 n hv m (i + 1) false H _ (by omega) h]; simp
   | true =>
    simp -implicitDefEqProofs only [splitK_t, offA_ptr, Nat.zero_add, Option.bind_some]
    rw [ld_fld (v := ints n.votes) h rfl, Option.bind_some, cut_ints (by omega), Option.bind_some, callK_ok (by simp [goodL, AV.good]) (contains_ok _ _ (by simp; omega))]
    simp -implicitDefEqProofs only [not_bool, add_int, Option.bind_some, e3]
    rw [check_J11 n hv m (i + 1) _ H _ (by omega) h]; simp
end Go.Pm
namespace Go.Pm
open Go.Proofs
set_option linter.unusedVariables false
set_option linter.unusedSimpArgs false
def tabB (n : Nde) (i : Nat) : Nat → Bool
 | 0 => true
 | m + 1 => cntF (n.next.getD i 0) && cntF (n.mtch.getD i 0) && tabB n (i + 1) m
theorem arA_ptr {l off i : Nat} (h : i < 8) : arA 8 1 (.ptr l 1 0 off) (.int .i64 (i : Int)) = some (.ptr l 1 0 (off + i)) := by
 simp only [arA]
 rw [if_pos ⟨by omega, by omega⟩]
 simp [offA]
theorem nd_next' {n : Nde} (h : n.wf) {i : Nat} (hi : i < 8) : n.cs[11 + i]? = some (.int .i64 (n.next.getD i 0)) := by
 rw [nd_next h hi, List.getD_eq_getElem?_getD, List.getElem?_eq_getElem (by rw [h.ln]; exact hi)]; rfl
theorem nd_mtch' {n : Nde} (h : n.wf) {i : Nat} (hi : i < 8) : n.cs[19 + i]? = some (.int .i64 (n.mtch.getD i 0)) := by
 rw [nd_mtch h hi, List.getD_eq_getElem?_getD, List.getElem?_eq_getElem (by rw [h.lm]; exact hi)]; rfl
theorem check_J6 (n : Nde) (w : n.wf) (hv : n.votes.length ≤ 2^60) : ∀ (m i : Nat) (ok : Bool) (H : List AObj) (E : List Nat), i + m = 8 → H[0]? = some n.row →
  raft_Check_J6 0 (.ptr 0 1 0 0) (.bool ok) (.int .i64 (i : Int)) H E = some (formA (ok && tabB n i m && votesB [] n.votes), [], [])
 | 0, i, ok, H, E, hi, h => by
  refine raft_Check_J6_of ?_
  simp -implicitDefEqProofs only [lss_int, Option.bind_some, condK_dec]
  rw [if_neg (by omega)]
  simp -implicitDefEqProofs only [offA_ptr, Nat.zero_add, Option.bind_some]
  rw [ld_fld (v := ints n.votes) h rfl, Option.bind_some, lenV_ints, Option.bind_some]
  have := check_J11 n hv n.votes.length 0 ok H E (by omega) h
  simpa [tabB] using this
 | m + 1, i, ok, H, E, hi, h => by
  refine raft_Check_J6_of ?_
  have h8 : i < 8 := by omega
  have e3 : IntKind.i64.wrap ((i : Int) + 1) = ((i + 1 : Nat) : Int) := w64 (by omega) (by omega)
  simp -implicitDefEqProofs only [lss_int, Option.bind_some, condK_dec]
  rw [if_pos (by omega), tabB]
  cases ok with
  | false =>
   simp -implicitDefEqProofs only [splitK_f, add_int, Option.bind_some, e3]
   rw [check_J6 n w hv m (i + 1) false H E (by omega) h]; simp
  | true =>
   simp -implicitDefEqProofs only [splitK_t, offA_ptr, Nat.zero_add, Option.bind_some, arA_ptr h8]
   rw [ld_fld h (nd_next' w h8), Option.bind_some, callK_ok (by simp [goodL, AV.good]) (in_ok _ 0 1152921504606846976)]
   cases h1 : cntF (n.next.getD i 0) with
   | false =>
    have h1' : inF (n.next.getD i 0) 0 1152921504606846976 = false := h1
    rw [h1']
    simp -implicitDefEqProofs only [splitK_f, add_int, Option.bind_some, e3]
    rw [check_J6 n w hv m (i + 1) false H _ (by omega) h]; simp
   | true =>
    have h1' : inF (n.next.getD i 0) 0 1152921504606846976 = true := h1
    rw [h1']
    simp -implicitDefEqProofs only [splitK_t, offA_ptr, Nat.zero_add, Option.bind_some, arA_ptr h8]
    rw [ld_fld h (nd_mtch' w h8), Option.bind_some, callK_ok (by simp [goodL, AV.good]) (in_ok _ 0 1152921504606846976)]
    simp -implicitDefEqProofs only [add_int, Option.bind_some, e3]
    rw [check_J6 n w hv m (i + 1) _ H _ (by omega) h]
    simp [cntF]
end Go.Pm
namespace Go.Pm
open Go.Proofs
set_option linter.unusedVariables false
set_option linter.unusedSimpArgs false
theorem one_i64 (l : List Int) : (l.map i64).all AV.one = true := by
 rw [List.all_map]; exact List.all_eq_true.2 fun x _ => rfl
theorem Nde.one (n : Nde) : n.cs.all AV.one = true := by
 unfold Nde.cs
 simp only [List.all_append, one_i64]
 simp [AV.one, ints, ents]
theorem new_nd {β : Type} {n : Nde} (w : n.wf) (H : List AObj) (K : Kt β) : newK n.av H K = K (.ptr H.length 1 0 0) (H ++ [n.row]) [] := by
 have : newA n.av H = some (.ptr H.length 1 0 0, H ++ [n.row], []) := by
  unfold newA
  have c : n.av.cells = n.cs := rfl
  rw [c, if_pos ⟨by intro e; have := (Nde.len w); simp [e] at this, n.one⟩, (Nde.len w)]; rfl
 unfold newK; rw [this]; rfl
theorem ld_aggp {H : List AObj} {l z j s : Nat} {cs : List AV} (h : H[l]? = some (.row z [.agg cs])) (hs : s ≤ (cs.drop j).length) : loadA true s (.ptr l 1 0 j) H = some (.agg ((cs.drop j).take s)) := by
 have e : loadA true s (.ptr l 1 0 j) H = ldv true s (cs.drop j) := by
  unfold loadA; simp only [h]; rfl
 rw [e]; simp only [ldv, if_true]; rw [if_pos hs]
theorem ld_log {n : Nde} {H : List AObj} {l : Nat} (h : H[l]? = some n.row) : loadA true 4 (.ptr l 1 0 5) H = some n.log.av := by
 rw [ld_aggp (cs := n.cs) h (by simp [Nde.cs])]; rfl
theorem ld_node {n : Nde} {H : List AObj} {l : Nat} (w : n.wf) (h : H[l]? = some n.row) : loadA true 29 (.ptr l 1 0 0) H = some n.av := by
 rw [ld_aggp (cs := n.cs) h (by rw [List.drop_zero, Nde.len w]; exact Nat.le_refl _), List.drop_zero, List.take_of_length_le (by rw [Nde.len w]; exact Nat.le_refl _)]; rfl
end Go.Pm
namespace Go.Pm
open Go.Proofs
set_option linter.unusedVariables false
set_option linter.unusedSimpArgs false
def soundN (n : Nde) : Bool := soundL n.log && (inF n.id 1 7 && (inF n.term (termL n.log (lastL n.log)) 1152921504606846976 && (inF n.voted 0 7 && (inF n.leader 0 7 && (inF n.role 0 2 && ((decide (0 < n.term) || decide (n.role = 0)) && (inF n.commit n.log.index (lastL n.log) && (cntF n.ticks && (cntF n.timeout && (tabB n 0 8 && votesB [] n.votes))))))))))
theorem check_ok (n : Nde) (w : n.wf) (hv : n.votes.length ≤ 2^60) (hl : LgOk n.log) : EV C n_raft_Check [n.av] [] = some (formA (soundN n), [], []) := by
 refine raft_Check_of ?_
 have h : ([n.row] : List AObj)[0]? = some n.row := rfl
 have F : ∀ E, raft_Check_J6 0 (.ptr 0 1 0 0) (.bool false) (.int .i64 0) [n.row] E = some (formA false, [], []) := fun E => by
  have := check_J6 n w hv 8 0 false [n.row] E rfl h
  simpa using this
 have T : ∀ b E, raft_Check_J6 0 (.ptr 0 1 0 0) (.bool b) (.int .i64 0) [n.row] E = some (formA (b && tabB n 0 8 && votesB [] n.votes), [], []) := fun b E => check_J6 n w hv 8 0 b [n.row] E rfl h
 have I : ∀ a b c (K : AV → List AObj → List Nat → Option R3), callK (EV C) false n_raft_in [.int .i64 a, .int .i64 b, .int .i64 c] [n.row] K = K (.bool (inF a b c)) [n.row] [] := fun a b c K => callK_ok (by simp [goodL, AV.good]) (in_ok a b c)
 dsimp only
 rw [new_nd w]
 simp -implicitDefEqProofs only [List.length_nil, List.nil_append, offA_ptr, Nat.zero_add, Option.bind_some, ld_log h]
 rw [callK_ok (by simp [goodL]) (Check_ok' n.log hl)]
 unfold soundN checkA
 cases hs : soundL n.log with
 | false =>
  have q : binA .neq (Go.TypeDesc.interface #[("Error", 121)]) (cmpT Tryz.prog) true (codeA 3) .nili = some (.bool true) := by kernel_rfl
  simp -implicitDefEqProofs only [Bool.false_eq_true, if_false, q, Option.bind_some, condK_t]
  exact endB_good rfl
 | true =>
  simp -implicitDefEqProofs only [if_true, neq_nil1, Option.bind_some, condK_f, ld_log h]
  have L := Last_ok n.log hl
  rw [hs] at L
  simp only [if_true] at L
  rw [callK_ok (by simp [goodL]) L]
  simp -implicitDefEqProofs only [extA_0, extA_1, Option.bind_some, ld_fld (j := 0) (v := .int .i64 n.id) h rfl, I]
  cases h1 : inF n.id 1 7 with
  | false => simp only [splitK_f, F]; simp
  | true =>
  simp -implicitDefEqProofs only [splitK_t, offA_ptr, Nat.zero_add, Option.bind_some, ld_fld (j := 1) (v := .int .i64 n.term) h rfl, I]
  cases h2 : inF n.term (termL n.log (lastL n.log)) 1152921504606846976 with
  | false => simp only [splitK_f, F]; simp
  | true =>
  simp -implicitDefEqProofs only [splitK_t, offA_ptr, Nat.zero_add, Option.bind_some, ld_fld (j := 2) (v := .int .i64 n.voted) h rfl, I]
  cases h3 : inF n.voted 0 7 with
  | false => simp only [splitK_f, F]; simp
  | true =>
  simp -implicitDefEqProofs only [splitK_t, offA_ptr, Nat.zero_add, Option.bind_some, ld_fld (j := 4) (v := .int .i64 n.leader) h rfl, I]
  cases h4 : inF n.leader 0 7 with
  | false => simp only [splitK_f, F]; simp
  | true =>
  simp -implicitDefEqProofs only [splitK_t, offA_ptr, Nat.zero_add, Option.bind_some, ld_fld (j := 3) (v := .int .i64 n.role) h rfl, I]
  cases h5 : inF n.role 0 2 with
  | false => simp only [splitK_f, F]; simp
  | true =>
  simp -implicitDefEqProofs only [splitK_t, offA_ptr, Nat.zero_add, Option.bind_some, ld_fld (j := 1) (v := .int .i64 n.term) h rfl, gtr_int, splitK_dec]
  by_cases ht : 0 < n.term
  · rw [if_pos ht]
    simp -implicitDefEqProofs only [splitK_t, offA_ptr, Nat.zero_add, Nat.add_zero, Option.bind_some, ld_fld (j := 9) (v := .int .i64 n.commit) h rfl, ld_fld (j := 5) (v := .int .i64 n.log.index) h rfl, I]
    cases h6 : inF n.commit n.log.index (lastL n.log) with
    | false => simp only [splitK_f, F]; simp [ht]
    | true =>
    simp -implicitDefEqProofs only [splitK_t, offA_ptr, Nat.zero_add, Option.bind_some, ld_fld (j := 27) (v := .int .i64 n.ticks) h (nd_ticks w), I]
    cases h7 : cntF n.ticks with
    | false =>
      rw [show inF n.ticks 0 1152921504606846976 = false from h7]
      simp only [splitK_f, F]; simp [ht]
    | true =>
      rw [show inF n.ticks 0 1152921504606846976 = true from h7]
      simp -implicitDefEqProofs only [splitK_t, offA_ptr, Nat.zero_add, Option.bind_some, ld_fld (j := 28) (v := .int .i64 n.timeout) h (nd_timeout w), I]
      rw [show inF n.timeout 0 1152921504606846976 = cntF n.timeout from rfl, T]
      simp [ht, Bool.and_assoc]
  · rw [if_neg ht]
    simp -implicitDefEqProofs only [offA_ptr, Nat.zero_add, Option.bind_some, ld_fld (j := 3) (v := .int .i64 n.role) h rfl, eql_int, splitK_dec]
    by_cases hr : n.role = 0
    · rw [if_pos hr]
      simp -implicitDefEqProofs only [splitK_t, offA_ptr, Nat.zero_add, Nat.add_zero, Option.bind_some, ld_fld (j := 9) (v := .int .i64 n.commit) h rfl, ld_fld (j := 5) (v := .int .i64 n.log.index) h rfl, I]
      cases h6 : inF n.commit n.log.index (lastL n.log) with
      | false => simp only [splitK_f, F]; simp [ht, hr]
      | true =>
      simp -implicitDefEqProofs only [splitK_t, offA_ptr, Nat.zero_add, Option.bind_some, ld_fld (j := 27) (v := .int .i64 n.ticks) h (nd_ticks w), I]
      cases h7 : cntF n.ticks with
      | false =>
       rw [show inF n.ticks 0 1152921504606846976 = false from h7]
       simp only [splitK_f, F]; simp [ht, hr]
      | true =>
       rw [show inF n.ticks 0 1152921504606846976 = true from h7]
       simp -implicitDefEqProofs only [splitK_t, offA_ptr, Nat.zero_add, Option.bind_some, ld_fld (j := 28) (v := .int .i64 n.timeout) h (nd_timeout w), I]
       rw [show inF n.timeout 0 1152921504606846976 = cntF n.timeout from rfl, T]
       simp [ht, hr, Bool.and_assoc]
    · rw [if_neg hr, F]; simp [ht, hr]
end Go.Pm
namespace Go.Pm
open Go.Proofs
set_option linter.unusedVariables false
set_option linter.unusedSimpArgs false
structure Msg where
 kind : Int
 frm : Int
 to : Int
 term : Int
 index : Int
 lterm : Int
 commit : Int
 ok : Bool
 es : List Ent
 mems : List Int
 tail : List AV
def Msg.cs (m : Msg) : List AV := [.int .i64 m.kind, .int .i64 m.frm, .int .i64 m.to, .int .i64 m.term, .int .i64 m.index, .int .i64 m.lterm, .int .i64 m.commit, .bool m.ok, ents m.es, ints m.mems] ++ m.tail
def Msg.av (m : Msg) : AV := .agg m.cs
structure Msg.wf (m : Msg) : Prop where
 len : m.tail.length = 7
 good : goodL m.tail = true
 one : m.tail.all AV.one = true
 shp : ∃ a r b l, m.tail = .int .i64 a :: .lst r :: .int .i64 b :: l
theorem Msg.cslen {m : Msg} (h : m.wf) : m.cs.length = 17 := by simp [Msg.cs, h.len]
theorem Msg.avgood {m : Msg} (h : m.wf) : m.av.good = true := by
 unfold Msg.av Msg.cs
 simp only [AV.good, goodL_append, h.good]
 simp [goodL, AV.good]
theorem Msg.csone {m : Msg} (h : m.wf) : m.cs.all AV.one = true := by
 unfold Msg.cs
 simp only [List.all_append, h.one]
 simp [AV.one, ints, ents]
/-- nothing is in the other parts -/
def tail0 : List AV := [.int .i64 0, .lst [], .int .i64 0, .lst [], .lst [], .lst [], .lst []]
/-- a node in a step: are the votes, the entries, nil; what it sends; its number -/
structure Stp where
 n : Nde
 vn : Bool
 en : Bool
 out : List Msg
 num : Int
def nilv (b : Bool) (v : AV) : AV := match b with | true => .nils | false => v
def Stp.vav (s : Stp) : AV := nilv s.vn (ints s.n.votes)
def Stp.eav (s : Stp) : AV := nilv s.en (ents s.n.log.es)
def Stp.lav (s : Stp) : AV := .agg [.int .i64 s.n.log.index, .int .i64 s.n.log.term, ints s.n.log.mems, s.eav]
def Stp.hd (s : Stp) : List AV := [.int .i64 s.n.id, .int .i64 s.n.term, .int .i64 s.n.voted, .int .i64 s.n.role, .int .i64 s.n.leader, .int .i64 s.n.log.index, .int .i64 s.n.log.term, ints s.n.log.mems, s.eav, .int .i64 s.n.commit, s.vav]
def Stp.cs (o : Nat) (s : Stp) : List AV := s.hd ++ (s.n.next.map i64 ++ (s.n.mtch.map i64 ++ [.int .i64 s.n.ticks, .int .i64 s.n.timeout, .slc o 0 s.out.length s.out.length, .int .i64 s.num]))
def srow (o : Nat) (s : Stp) : AObj := .row 31 [.agg (s.cs o)]
def orow (s : Stp) : AObj := vro 17 (s.out.map Msg.av)
/-- the heap -/
def hp (P : List AObj) (s : Stp) (R : List AObj) : List AObj := P ++ (orow s :: srow P.length s :: R)
structure Stp.wf (s : Stp) : Prop where
 n : s.n.wf
 vn : s.vn = true → s.n.votes = []
 en : s.en = true → s.n.log.es = []
 out : ∀ m ∈ s.out, m.wf
theorem hp_app (P : List AObj) (s : Stp) (R X : List AObj) : hp P s R ++ X = hp P s (R ++ X) := by simp [hp]
theorem hp_len (P : List AObj) (s : Stp) (R : List AObj) : (hp P s R).length = P.length + 2 + R.length := by simp [hp]; omega
theorem hp_S (P : List AObj) (s : Stp) (R : List AObj) : (hp P s R)[P.length + 1]? = some (srow P.length s) := by
 unfold hp; rw [List.getElem?_append_right (by omega)]; simp
theorem hp_O (P : List AObj) (s : Stp) (R : List AObj) : (hp P s R)[P.length]? = some (orow s) := by
 unfold hp; rw [List.getElem?_append_right (by omega)]; simp
theorem hp_R (P : List AObj) (s : Stp) (R : List AObj) (i : Nat) : (hp P s R)[P.length + 2 + i]? = R[i]? := by
 unfold hp; rw [List.getElem?_append_right (by omega)]
 have : P.length + 2 + i - P.length = i + 2 := by omega
 rw [this]; rfl
theorem hp_setS (P : List AObj) (s s' : Stp) (R : List AObj) (h : s'.out = s.out) : (hp P s R).set (P.length + 1) (srow P.length s') = hp P s' R := by
 unfold hp
 rw [List.set_append_right _ _ (by omega)]
 have : orow s' = orow s := by unfold orow; rw [h]
 simp [this]
theorem hp_setR (P : List AObj) (s : Stp) (R : List AObj) (i : Nat) (x : AObj) : (hp P s R).set (P.length + 2 + i) x = hp P s (R.set i x) := by
 unfold hp
 rw [List.set_append_right _ _ (by omega)]
 have : P.length + 2 + i - P.length = i + 2 := by omega
 rw [this]; rfl
theorem hp_take (P : List AObj) (s s' : Stp) (R X : List AObj) : (hp P s' (R ++ X)).take (hp P s R).length = hp P s' R := by
 rw [← hp_app, hp_len]
 rw [List.take_append_of_le_length (by rw [hp_len]; exact Nat.le_refl _)]
 rw [List.take_of_length_le (by rw [hp_len]; exact Nat.le_refl _)]
/-- what a method does -/
def Meth (f : FuncId) (args : List AV) (s : Stp) (v : AV) (s' : Stp) : Prop :=
 ∀ (P R : List AObj), EV C f (.ptr (P.length + 1) 1 0 0 :: args) (hp P s R) = some (v, hp P s' R, [])
theorem Meth.call {f : FuncId} {args bs : List AV} {s s' : Stp} {v : AV} (h : Meth f bs s v s') {β : Type} {P R : List AObj} {K : Kt β}
  (hf : frzL (hp P s R) args = some bs) (hk : killsL args = []) : callK (EV C) false f (.ptr (P.length + 1) 1 0 0 :: args) (hp P s R) K = K v (hp P s' R) [] := by
 have e : callA (EV C) false f (.ptr (P.length + 1) 1 0 0 :: args) (hp P s R) = some (v, hp P s' R, []) := by
  have e1 : frzL (hp P s R) (.ptr (P.length + 1) 1 0 0 :: args) = some (.ptr (P.length + 1) 1 0 0 :: bs) := by simp only [frzL, frz, Option.bind_some, hf, Option.map_some]
  have e2 : belL 0 (.ptr (P.length + 1) 1 0 0 :: bs) = false := by simp [belL, AV.bel]
  have e3 : killsL (.ptr (P.length + 1) 1 0 0 :: args) = [] := by simp [killsL, kills, hk]
  unfold callA
  rw [if_neg (by decide), e1, Option.bind_some, e2, if_neg (by decide), e3]
  exact h P R
 unfold callK; rw [e]; rfl
theorem Meth.call0 {f : FuncId} {args : List AV} {s s' : Stp} {v : AV} (h : Meth f args s v s') {β : Type} {P R : List AObj} {K : Kt β}
 (hg : goodL args = true) : callK (EV C) false f (.ptr (P.length + 1) 1 0 0 :: args) (hp P s R) K = K v (hp P s' R) [] := h.call (frzL_good _ _ hg) (killsL_good _ hg)
/-- its end -/
theorem endB_m {v u : AV} {n : Nat} {H : List AObj} {P : List AObj} {s s' : Stp} {R X : List AObj} (hn : n = (hp P s R).length) (hH : H = hp P s' (R ++ X)) (h0 : frz H v = some u) (h : u.good = true) (hk : kills v = []) : endB false false n v H [] = some (u, hp P s' R, []) := by
 subst hn hH
 have e : (if u.bel (hp P s R).length = true ∧ (([] : List Nat).all fun e => decide ((hp P s R).length ≤ e)) = true then some (u, (hp P s' (R ++ X)).take (hp P s R).length, ([] : List Nat)) else none) = some (u, hp P s' R, []) := by
  rw [if_pos ⟨bel_good _ u h, rfl⟩, hp_take]
 unfold endB endA
 simp only [Bool.false_eq_true, if_false, h0, Option.map_some, Option.bind_some, hk, killAll]
 exact e
theorem ld_s {P R : List AObj} {s : Stp} {j : Nat} {v : AV} (h : (s.cs P.length)[j]? = some v) : loadA false 1 (.ptr (P.length + 1) 1 0 j) (hp P s R) = some v :=
 ld_fld (hp_S P s R) h
section
variable {P R : List AObj} {s : Stp}
theorem ls_id : loadA false 1 (.ptr (P.length + 1) 1 0 0) (hp P s R) = some (.int .i64 s.n.id) := ld_s rfl
theorem ls_term : loadA false 1 (.ptr (P.length + 1) 1 0 1) (hp P s R) = some (.int .i64 s.n.term) := ld_s rfl
theorem ls_voted : loadA false 1 (.ptr (P.length + 1) 1 0 2) (hp P s R) = some (.int .i64 s.n.voted) := ld_s rfl
theorem ls_role : loadA false 1 (.ptr (P.length + 1) 1 0 3) (hp P s R) = some (.int .i64 s.n.role) := ld_s rfl
theorem ls_leader : loadA false 1 (.ptr (P.length + 1) 1 0 4) (hp P s R) = some (.int .i64 s.n.leader) := ld_s rfl
theorem ls_index : loadA false 1 (.ptr (P.length + 1) 1 0 5) (hp P s R) = some (.int .i64 s.n.log.index) := ld_s rfl
theorem ls_lterm : loadA false 1 (.ptr (P.length + 1) 1 0 6) (hp P s R) = some (.int .i64 s.n.log.term) := ld_s rfl
theorem ls_mems : loadA false 1 (.ptr (P.length + 1) 1 0 7) (hp P s R) = some (ints s.n.log.mems) := ld_s rfl
theorem ls_es : loadA false 1 (.ptr (P.length + 1) 1 0 8) (hp P s R) = some s.eav := ld_s rfl
theorem ls_commit : loadA false 1 (.ptr (P.length + 1) 1 0 9) (hp P s R) = some (.int .i64 s.n.commit) := ld_s rfl
theorem ls_votes : loadA false 1 (.ptr (P.length + 1) 1 0 10) (hp P s R) = some s.vav := ld_s rfl
theorem cs_next (w : s.n.wf) {o i : Nat} (hi : i < 8) : (s.cs o)[11 + i]? = some (.int .i64 (s.n.next.getD i 0)) := by
 unfold Stp.cs
 rw [List.getElem?_append_right (by simp [Stp.hd]), List.getElem?_append_left (by simp [Stp.hd, w.ln]; omega)]
 simp [Stp.hd, i64, w.ln, hi]
theorem cs_mtch (w : s.n.wf) {o i : Nat} (hi : i < 8) : (s.cs o)[19 + i]? = some (.int .i64 (s.n.mtch.getD i 0)) := by
 unfold Stp.cs
 rw [List.getElem?_append_right (by simp [Stp.hd]; omega), List.getElem?_append_right (by simp [Stp.hd, w.ln]; omega), List.getElem?_append_left (by simp [Stp.hd, w.ln, w.lm]; omega)]
 have e : 19 + i - 11 - 8 = i := by omega
 simp [Stp.hd, i64, w.ln, w.lm, hi, e]
theorem cs_top (w : s.n.wf) {o j : Nat} : (s.cs o)[27 + j]? = ([.int .i64 s.n.ticks, .int .i64 s.n.timeout, .slc o 0 s.out.length s.out.length, .int .i64 s.num] : List AV)[j]? := by
 unfold Stp.cs
 rw [List.getElem?_append_right (by simp [Stp.hd]; omega), List.getElem?_append_right (by simp [Stp.hd, w.ln]; omega), List.getElem?_append_right (by simp [Stp.hd, w.ln, w.lm]; omega)]
 have e : 27 + j - s.hd.length - (s.n.next.map i64).length - (s.n.mtch.map i64).length = j := by simp [Stp.hd, w.ln, w.lm]; omega
 rw [e]
theorem ls_next (w : s.n.wf) {i : Nat} (hi : i < 8) : loadA false 1 (.ptr (P.length + 1) 1 0 (11 + i)) (hp P s R) = some (.int .i64 (s.n.next.getD i 0)) := ld_s (cs_next w hi)
theorem ls_mtch (w : s.n.wf) {i : Nat} (hi : i < 8) : loadA false 1 (.ptr (P.length + 1) 1 0 (19 + i)) (hp P s R) = some (.int .i64 (s.n.mtch.getD i 0)) := ld_s (cs_mtch w hi)
theorem ls_ticks (w : s.n.wf) : loadA false 1 (.ptr (P.length + 1) 1 0 27) (hp P s R) = some (.int .i64 s.n.ticks) := ld_s (cs_top w (j := 0))
theorem ls_timeout (w : s.n.wf) : loadA false 1 (.ptr (P.length + 1) 1 0 28) (hp P s R) = some (.int .i64 s.n.timeout) := ld_s (cs_top w (j := 1))
theorem ls_out (w : s.n.wf) : loadA false 1 (.ptr (P.length + 1) 1 0 29) (hp P s R) = some (.slc P.length 0 s.out.length s.out.length) := ld_s (cs_top w (j := 2))
theorem ls_num (w : s.n.wf) : loadA false 1 (.ptr (P.length + 1) 1 0 30) (hp P s R) = some (.int .i64 s.num) := ld_s (cs_top w (j := 3))
theorem cs_len (w : s.n.wf) {o : Nat} : (s.cs o).length = 31 := by simp [Stp.cs, Stp.hd, w.ln, w.lm]
theorem ls_log : loadA true 4 (.ptr (P.length + 1) 1 0 5) (hp P s R) = some s.lav := by
 rw [ld_aggp (cs := s.cs P.length) (hp_S P s R) (by simp [Stp.cs, Stp.hd])]; rfl
theorem ls_base : loadA true 3 (.ptr (P.length + 1) 1 0 5) (hp P s R) = some s.n.log.base := by
 rw [ld_aggp (cs := s.cs P.length) (hp_S P s R) (by simp [Stp.cs, Stp.hd])]; rfl
theorem ls_match (w : s.n.wf) : loadA true 8 (.ptr (P.length + 1) 1 0 19) (hp P s R) = some (.agg (s.n.mtch.map i64)) := by
 rw [ld_aggp (cs := s.cs P.length) (hp_S P s R) (by simp [Stp.cs, Stp.hd, w.ln, w.lm])]
 have : (s.cs P.length).drop 19 = s.n.mtch.map i64 ++ [.int .i64 s.n.ticks, .int .i64 s.n.timeout, .slc P.length 0 s.out.length s.out.length, .int .i64 s.num] := by
  unfold Stp.cs
  rw [show (19 : Nat) = s.hd.length + 8 from rfl, List.drop_length_add_append, show 8 = (s.n.next.map i64).length from by simp [w.ln], List.drop_left]
 rw [this, show 8 = (s.n.mtch.map i64).length from by simp [w.lm], List.take_left]
theorem frz_vav (w : s.wf) (H : List AObj) : frz H s.vav = some (ints s.n.votes) := by
 unfold Stp.vav nilv
 split
 · rw [w.vn ‹_›]; rfl
 · rfl
theorem frz_eav (w : s.wf) (H : List AObj) : frz H s.eav = some (ents s.n.log.es) := by
 unfold Stp.eav nilv
 split
 · rw [w.en ‹_›]; rfl
 · rfl
theorem frz_lav (w : s.wf) (H : List AObj) : frz H s.lav = some s.n.log.av := by
 unfold Stp.lav
 simp only [frz, frzL, frz_eav w, Option.bind_some, Option.map_some]
 rfl
theorem kills_vav : kills s.vav = [] := by unfold Stp.vav nilv; split <;> rfl
theorem kills_eav : kills s.eav = [] := by unfold Stp.eav nilv; split <;> rfl
theorem kills_lav : kills s.lav = [] := by
 unfold Stp.lav; simp only [kills, killsL, kills_eav]; rfl
theorem one_vav : s.vav.one = true := by unfold Stp.vav nilv; split <;> rfl
theorem one_eav : s.eav.one = true := by unfold Stp.eav nilv; split <;> rfl
theorem bel_eav (m : Nat) : s.eav.bel m = true := by
 unfold Stp.eav nilv; split
 · rfl
 · exact bel_good m _ (good_ents _)
end
end Go.Pm
namespace Go.Pm
open Go.Proofs
set_option linter.unusedVariables false
set_option linter.unusedSimpArgs false
theorem sto_row {H : List AObj} {l z n off : Nat} {cs : List AV} {v : AV} {β : Type} {K : List AObj → List Nat → Option β} (h : H[l]? = some (.row z [.agg cs])) (hn : v.cells.length = n) (h1 : v.cells.all AV.one = true) (hb : belL (l + 1) v.cells = true) (hle : off + n ≤ cs.length) :
  stoK n (.ptr l 1 0 off) v H K = K (H.set l (.row z [.agg (cs.take off ++ v.cells ++ cs.drop (off + n))])) [] := by
 unfold stoK storeA
 simp only [h, List.length_singleton, hn, h1, and_self, if_true, List.getElem?_cons_zero, Option.bind_some, setC]
 rw [if_pos hle]
 simp only [Option.map_some, Option.bind_some, escs, hb, if_true, List.set_cons_zero]
section
variable {P R : List AObj} {s : Stp} {β : Type} {K : List AObj → List Nat → Option β}
theorem sto_s {s' : Stp} {n off : Nat} {v : AV} (hn : v.cells.length = n) (h1 : v.cells.all AV.one = true) (hb : belL (P.length + 1 + 1) v.cells = true) (hle : off + n ≤ (s.cs P.length).length) (hc : s'.cs P.length = (s.cs P.length).take off ++ v.cells ++ (s.cs P.length).drop (off + n)) (ho : s'.out = s.out) :
  stoK n (.ptr (P.length + 1) 1 0 off) v (hp P s R) K = K (hp P s' R) [] := by
 rw [sto_row (hp_S P s R) hn h1 hb hle, ← hc, ← hp_setS P s s' R ho]; rfl
theorem cs_ge : 11 ≤ (s.cs P.length).length := by simp [Stp.cs, Stp.hd]
theorem ss_term (x : Int) : stoK 1 (.ptr (P.length + 1) 1 0 1) (.int .i64 x) (hp P s R) K = K (hp P { s with n := { s.n with term := x } } R) [] := sto_s rfl rfl rfl (Nat.le_trans (by decide) cs_ge) rfl rfl
theorem ss_voted (x : Int) : stoK 1 (.ptr (P.length + 1) 1 0 2) (.int .i64 x) (hp P s R) K = K (hp P { s with n := { s.n with voted := x } } R) [] := sto_s rfl rfl rfl (Nat.le_trans (by decide) cs_ge) rfl rfl
theorem ss_role (x : Int) : stoK 1 (.ptr (P.length + 1) 1 0 3) (.int .i64 x) (hp P s R) K = K (hp P { s with n := { s.n with role := x } } R) [] := sto_s rfl rfl rfl (Nat.le_trans (by decide) cs_ge) rfl rfl
theorem ss_leader (x : Int) : stoK 1 (.ptr (P.length + 1) 1 0 4) (.int .i64 x) (hp P s R) K = K (hp P { s with n := { s.n with leader := x } } R) [] := sto_s rfl rfl rfl (Nat.le_trans (by decide) cs_ge) rfl rfl
theorem ss_commit (x : Int) : stoK 1 (.ptr (P.length + 1) 1 0 9) (.int .i64 x) (hp P s R) K = K (hp P { s with n := { s.n with commit := x } } R) [] := sto_s rfl rfl rfl (Nat.le_trans (by decide) cs_ge) rfl rfl
theorem ss_novotes : stoK 1 (.ptr (P.length + 1) 1 0 10) .nils (hp P s R) K = K (hp P { s with n := { s.n with votes := [] }, vn := true } R) [] := sto_s rfl rfl rfl (Nat.le_trans (by decide) cs_ge) rfl rfl
theorem ss_votes (l : List Int) : stoK 1 (.ptr (P.length + 1) 1 0 10) (ints l) (hp P s R) K = K (hp P { s with n := { s.n with votes := l }, vn := false } R) [] := sto_s rfl rfl (by simp [ints, AV.cells, belL, AV.bel, belL_good _ _ (goodL_i64 l)]) (Nat.le_trans (by decide) cs_ge) rfl rfl
theorem ss_es (l : List Ent) : stoK 1 (.ptr (P.length + 1) 1 0 8) (ents l) (hp P s R) K = K (hp P { s with n := { s.n with log := { s.n.log with es := l } }, en := false } R) [] := sto_s rfl rfl (by simp [ents, AV.cells, belL, AV.bel, belL_good _ _ (goodL_ents l)]) (Nat.le_trans (by decide) cs_ge) rfl rfl
theorem ss_log (g : Lg) (b : Bool) : stoK 4 (.ptr (P.length + 1) 1 0 5) (.agg [.int .i64 g.index, .int .i64 g.term, ints g.mems, nilv b (ents g.es)]) (hp P s R) K = K (hp P { s with n := { s.n with log := g }, en := b } R) [] := by
 refine sto_s rfl ?_ ?_ (Nat.le_trans (by decide) cs_ge) rfl rfl
 · cases b <;> rfl
 · cases b <;> simp [nilv, ents, ints, AV.cells, belL, AV.bel, belL_good _ _ (goodL_ents g.es), belL_good _ _ (goodL_i64 g.mems)]
theorem tds {l : List AV} {i : Nat} {v : AV} (h : i < l.length) : l.take i ++ [v] ++ l.drop (i + 1) = l.set i v := by
 rw [List.set_eq_take_append_cons_drop, if_pos h]; simp
theorem ss_next (w : s.n.wf) {i : Nat} (hi : i < 8) (x : Int) : stoK 1 (.ptr (P.length + 1) 1 0 (11 + i)) (.int .i64 x) (hp P s R) K = K (hp P { s with n := { s.n with next := s.n.next.set i x } } R) [] := by
 refine sto_s rfl rfl rfl (by rw [cs_len w]; omega) ?_ rfl
 rw [show (AV.int .i64 x).cells = [.int .i64 x] from rfl, tds (by rw [cs_len w]; omega)]
 unfold Stp.cs
 rw [List.set_append_right _ _ (by simp [Stp.hd]), List.set_append_left _ _ (by simp [Stp.hd, w.ln]; omega)]
 have e : 11 + i - s.hd.length = i := by simp [Stp.hd]
 rw [e, show AV.int .i64 x = i64 x from rfl, List.map_set]; rfl
theorem ss_mtch (w : s.n.wf) {i : Nat} (hi : i < 8) (x : Int) : stoK 1 (.ptr (P.length + 1) 1 0 (19 + i)) (.int .i64 x) (hp P s R) K = K (hp P { s with n := { s.n with mtch := s.n.mtch.set i x } } R) [] := by
 refine sto_s rfl rfl rfl (by rw [cs_len w]; omega) ?_ rfl
 rw [show (AV.int .i64 x).cells = [.int .i64 x] from rfl, tds (by rw [cs_len w]; omega)]
 unfold Stp.cs
 rw [List.set_append_right _ _ (by simp [Stp.hd]; omega), List.set_append_right _ _ (by simp [Stp.hd, w.ln]; omega), List.set_append_left _ _ (by simp [Stp.hd, w.ln, w.lm]; omega)]
 have e : 19 + i - s.hd.length - (s.n.next.map i64).length = i := by simp [Stp.hd, w.ln]; omega
 rw [e, show AV.int .i64 x = i64 x from rfl, List.map_set]; rfl
theorem cs_settop (w : s.n.wf) {o j : Nat} {v : AV} : (s.cs o).set (27 + j) v = s.hd ++ (s.n.next.map i64 ++ (s.n.mtch.map i64 ++ ([.int .i64 s.n.ticks, .int .i64 s.n.timeout, .slc o 0 s.out.length s.out.length, .int .i64 s.num] : List AV).set j v)) := by
 unfold Stp.cs
 rw [List.set_append_right _ _ (by simp [Stp.hd]; omega), List.set_append_right _ _ (by simp [Stp.hd, w.ln]; omega), List.set_append_right _ _ (by simp [Stp.hd, w.ln, w.lm]; omega)]
 have e : 27 + j - s.hd.length - (s.n.next.map i64).length - (s.n.mtch.map i64).length = j := by simp [Stp.hd, w.ln, w.lm]; omega
 rw [e]
theorem ss_ticks (w : s.n.wf) (x : Int) : stoK 1 (.ptr (P.length + 1) 1 0 27) (.int .i64 x) (hp P s R) K = K (hp P { s with n := { s.n with ticks := x } } R) [] := by
 refine sto_s rfl rfl rfl (by rw [cs_len w]; omega) ?_ rfl
 rw [show (AV.int .i64 x).cells = [.int .i64 x] from rfl, tds (by rw [cs_len w]; omega), cs_settop w (j := 0)]; rfl
theorem ss_timeout (w : s.n.wf) (x : Int) : stoK 1 (.ptr (P.length + 1) 1 0 28) (.int .i64 x) (hp P s R) K = K (hp P { s with n := { s.n with timeout := x } } R) [] := by
 refine sto_s rfl rfl rfl (by rw [cs_len w]; omega) ?_ rfl
 rw [show (AV.int .i64 x).cells = [.int .i64 x] from rfl, tds (by rw [cs_len w]; omega), cs_settop w (j := 1)]; rfl
theorem ss_num (w : s.n.wf) (x : Int) : stoK 1 (.ptr (P.length + 1) 1 0 30) (.int .i64 x) (hp P s R) K = K (hp P { s with num := x } R) [] := by
 refine sto_s rfl rfl rfl (by rw [cs_len w]; omega) ?_ rfl
 rw [show (AV.int .i64 x).cells = [.int .i64 x] from rfl, tds (by rw [cs_len w]; omega), cs_settop w (j := 3)]; rfl
def hpo (P : List AObj) (s : Stp) (m : Msg) (R : List AObj) : List AObj := P ++ (vro 17 ((s.out ++ [m]).map Msg.av) :: srow P.length s :: R)
theorem ss_out (w : s.n.wf) (m : Msg) : stoK 1 (.ptr (P.length + 1) 1 0 29) (.slc P.length 0 (s.out.length + 1) (s.out.length + 1)) (hpo P s m R) K = K (hp P { s with out := s.out ++ [m] } R) [] := by
 have h : (hpo P s m R)[P.length + 1]? = some (srow P.length s) := by
  unfold hpo; rw [List.getElem?_append_right (by omega)]; simp
 rw [sto_row (n := 1) (z := 31) (cs := s.cs P.length) h rfl rfl (by simp [AV.cells, belL, AV.bel]; omega) (by rw [cs_len w]; omega)]
 rw [show (AV.slc P.length 0 (s.out.length + 1) (s.out.length + 1)).cells = [.slc P.length 0 (s.out.length + 1) (s.out.length + 1)] from rfl, tds (by rw [cs_len w]; omega), cs_settop w (j := 2)]
 unfold hpo hp
 rw [List.set_append_right _ _ (by omega)]
 simp [orow, srow, Stp.cs, Stp.hd, Stp.eav, Stp.vav]
end
theorem app_out {β : Type} {P R : List AObj} {s : Stp} {m : Msg} {K : Kt β} (w : m.wf) (ho : s.out.length < 1000000) :
  appK 17 248 (.slc P.length 0 s.out.length s.out.length) (.lst [m.av]) (hp P s R) K = K (.slc P.length 0 (s.out.length + 1) (s.out.length + 1)) (hpo P s m R) [] := by
 have hg : goodL [m.av] = true := by simp [goodL, Msg.avgood w]
 rw [appK_vro (z := 17) (es := s.out.map Msg.av) (ys := [m.av]) rfl (hp_O P s R) (by simp) (by simp [lz, Msg.av, AV.cells, Msg.cslen w]) (by decide) (by decide) (by decide) (by simp; omega)]
 have : (hp P s R).set P.length (vro 17 (s.out.map Msg.av ++ [m.av])) = hpo P s m R := by
  unfold hp hpo; rw [List.set_append_right _ _ (by omega)]; simp
 simp [this, escs_good hg]
def mrow (m : Msg) : AObj := .row 17 [m.av]
theorem hp_M (P : List AObj) (s : Stp) (R X : List AObj) (x : AObj) : (hp P s (R ++ x :: X))[P.length + 2 + R.length]? = some x := by
 rw [hp_R]; simp
theorem new_m {β : Type} {P R : List AObj} {s : Stp} {m : Msg} (w : m.wf) {K : Kt β} : newK m.av (hp P s R) K = K (.ptr (P.length + 2 + R.length) 1 0 0) (hp P s (R ++ [mrow m])) [] := by
 have : newA m.av (hp P s R) = some (.ptr (P.length + 2 + R.length) 1 0 0, hp P s (R ++ [mrow m]), []) := by
  unfold newA
  have c : m.av.cells = m.cs := rfl
  rw [c, if_pos ⟨by intro e; have := Msg.cslen w; simp [e] at this, Msg.csone w⟩, Msg.cslen w, hp_app, hp_len]; rfl
 unfold newK; rw [this]; rfl
section
variable {P R X : List AObj} {s : Stp} {m : Msg}
theorem ld_m {j : Nat} {v : AV} (h : m.cs[j]? = some v) : loadA false 1 (.ptr (P.length + 2 + R.length) 1 0 j) (hp P s (R ++ mrow m :: X)) = some v := ld_fld (hp_M P s R X _) h
theorem lm_kind : loadA false 1 (.ptr (P.length + 2 + R.length) 1 0 0) (hp P s (R ++ mrow m :: X)) = some (.int .i64 m.kind) := ld_m rfl
theorem lm_frm : loadA false 1 (.ptr (P.length + 2 + R.length) 1 0 1) (hp P s (R ++ mrow m :: X)) = some (.int .i64 m.frm) := ld_m rfl
theorem lm_to : loadA false 1 (.ptr (P.length + 2 + R.length) 1 0 2) (hp P s (R ++ mrow m :: X)) = some (.int .i64 m.to) := ld_m rfl
theorem lm_term : loadA false 1 (.ptr (P.length + 2 + R.length) 1 0 3) (hp P s (R ++ mrow m :: X)) = some (.int .i64 m.term) := ld_m rfl
theorem lm_index : loadA false 1 (.ptr (P.length + 2 + R.length) 1 0 4) (hp P s (R ++ mrow m :: X)) = some (.int .i64 m.index) := ld_m rfl
theorem lm_lterm : loadA false 1 (.ptr (P.length + 2 + R.length) 1 0 5) (hp P s (R ++ mrow m :: X)) = some (.int .i64 m.lterm) := ld_m rfl
theorem lm_commit : loadA false 1 (.ptr (P.length + 2 + R.length) 1 0 6) (hp P s (R ++ mrow m :: X)) = some (.int .i64 m.commit) := ld_m rfl
theorem lm_ok : loadA false 1 (.ptr (P.length + 2 + R.length) 1 0 7) (hp P s (R ++ mrow m :: X)) = some (.bool m.ok) := ld_m rfl
theorem lm_es : loadA false 1 (.ptr (P.length + 2 + R.length) 1 0 8) (hp P s (R ++ mrow m :: X)) = some (ents m.es) := ld_m rfl
theorem lm_mems : loadA false 1 (.ptr (P.length + 2 + R.length) 1 0 9) (hp P s (R ++ mrow m :: X)) = some (ints m.mems) := ld_m rfl
theorem lm_all (w : m.wf) : loadA true 17 (.ptr (P.length + 2 + R.length) 1 0 0) (hp P s (R ++ mrow m :: X)) = some m.av := by
 have h : (hp P s (R ++ mrow m :: X))[P.length + 2 + R.length]? = some (.row 17 [.agg m.cs]) := hp_M P s R X _
 rw [ld_aggp (cs := m.cs) h (by rw [List.drop_zero, Msg.cslen w]; exact Nat.le_refl _), List.drop_zero, List.take_of_length_le (by rw [Msg.cslen w]; exact Nat.le_refl _)]; rfl
theorem hp_setM (m' : Msg) : (hp P s (R ++ mrow m :: X)).set (P.length + 2 + R.length) (mrow m') = hp P s (R ++ mrow m' :: X) := by
 rw [hp_setR]; simp
variable {β : Type} {K : List AObj → List Nat → Option β}
theorem sto_m {m' : Msg} {off : Nat} {x : Int} (w : m.wf) (hle : off < 17) (hc : m'.cs = m.cs.take off ++ [.int .i64 x] ++ m.cs.drop (off + 1)) :
  stoK 1 (.ptr (P.length + 2 + R.length) 1 0 off) (.int .i64 x) (hp P s (R ++ mrow m :: X)) K = K (hp P s (R ++ mrow m' :: X)) [] := by
 have h : (hp P s (R ++ mrow m :: X))[P.length + 2 + R.length]? = some (.row 17 [.agg m.cs]) := hp_M P s R X _
 rw [sto_row (n := 1) (z := 17) (cs := m.cs) h rfl rfl rfl (by rw [Msg.cslen w]; omega)]
 rw [show (AV.int .i64 x).cells = [.int .i64 x] from rfl, ← hc, ← hp_setM m']; rfl
theorem sm_frm (w : m.wf) (x : Int) : stoK 1 (.ptr (P.length + 2 + R.length) 1 0 1) (.int .i64 x) (hp P s (R ++ mrow m :: X)) K = K (hp P s (R ++ mrow { m with frm := x } :: X)) [] := sto_m w (by decide) rfl
theorem sm_to (w : m.wf) (x : Int) : stoK 1 (.ptr (P.length + 2 + R.length) 1 0 2) (.int .i64 x) (hp P s (R ++ mrow m :: X)) K = K (hp P s (R ++ mrow { m with to := x } :: X)) [] := sto_m w (by decide) rfl
theorem sm_term (w : m.wf) (x : Int) : stoK 1 (.ptr (P.length + 2 + R.length) 1 0 3) (.int .i64 x) (hp P s (R ++ mrow m :: X)) K = K (hp P s (R ++ mrow { m with term := x } :: X)) [] := sto_m w (by decide) rfl
end
end Go.Pm
namespace Go.Pm
open Go.Proofs
set_option linter.unusedVariables false
set_option linter.unusedSimpArgs false
theorem nilA_ptr (l tot i off : Nat) : nilA (.ptr l tot i off) = some (.ptr l tot i off) := rfl
theorem neq_nn (ms : Array (String × TypeId)) (c : TypeId → Bool) : binA .neq (.interface ms) c true .nili .nili = some (.bool false) := rfl
theorem eql_nn (ms : Array (String × TypeId)) (c : TypeId → Bool) : binA .eql (.interface ms) c true .nili .nili = some (.bool true) := rfl
theorem neq_in (ms : Array (String × TypeId)) (c : TypeId → Bool) (b : Bool) (t : TypeId) (v : AV) : binA .neq (.interface ms) c b (.ifc t v) .nili = some (.bool true) := rfl
theorem eql_in (ms : Array (String × TypeId)) (c : TypeId → Bool) (b : Bool) (t : TypeId) (v : AV) : binA .eql (.interface ms) c b (.ifc t v) .nili = some (.bool false) := rfl
set_option linter.defProp false in
def ZK := And.intro (@lm_kind) (And.intro (@lm_frm) (And.intro (@lm_to) (And.intro (@lm_term) (And.intro (@lm_index) (And.intro (@lm_lterm) (And.intro (@lm_commit) (And.intro (@lm_ok) (And.intro (@lm_es) (@lm_mems)))))))))
set_option linter.defProp false in
def ZD := And.intro (@nilA_ptr) (And.intro (@offA_ptr) (And.intro (@Option.bind_some.{0, 0}) (And.intro (@Nat.zero_add) (And.intro (@Nat.add_zero) (And.intro (@hp_len) (And.intro (@hp_app) (And.intro (@List.append_nil.{0}) (And.intro (@List.nil_append.{0}) (And.intro (@ls_id) (And.intro (@ls_term) (And.intro (@ls_voted) (And.intro (@ls_role) (And.intro (@ls_leader) (And.intro (@ls_index) (And.intro (@ls_lterm) (And.intro (@ls_mems) (And.intro (@ls_es) (And.intro (@ls_commit) (And.intro (@ls_votes) (And.intro (@ls_log) (And.intro (@ls_base) (And.intro (@ss_term) (And.intro (@ss_voted) (And.intro (@ss_role) (And.intro (@ss_leader) (And.intro (@ss_commit) (And.intro (@ss_novotes) (And.intro (@ss_votes) (And.intro (@ss_es) (And.intro (@eql_int) (And.intro (@neq_int) (And.intro (@lss_int) (And.intro (@gtr_int) (And.intro (@geq_int) (And.intro (@leq_int) (And.intro (@splitK_t) (And.intro (@splitK_f) (And.intro (@condK_t) (And.intro (@condK_f) (And.intro (@extA_0) (And.intro (@extA_1) (And.intro (@extA_2) (And.intro (@not_bool) (And.intro (@Bool.not_true) (And.intro (@Bool.not_false) (And.intro (@neq_nn) (And.intro (@neq_in) (And.intro (@eql_nn) (And.intro (@eql_in) (And.intro (@List.append_assoc.{0}) (@List.cons_append.{0})))))))))))))))))))))))))))))))))))))))))))))))))))
set_option linter.defProp false in
def ZS := And.intro (@nilA_ptr) (And.intro (@offA_ptr) (And.intro (@Option.bind_some.{0, 0}) (And.intro (@Nat.zero_add) (And.intro (@Nat.add_zero) (And.intro (@hp_len) (And.intro (@hp_app) (And.intro (@List.append_nil.{0}) (And.intro (@List.nil_append.{0}) (And.intro (@ls_id) (And.intro (@ls_term) (And.intro (@ls_voted) (And.intro (@ls_role) (And.intro (@ls_leader) (And.intro (@ls_index) (And.intro (@ls_lterm) (And.intro (@ls_mems) (And.intro (@ls_es) (And.intro (@ls_commit) (And.intro (@ls_votes) (And.intro (@ls_log) (And.intro (@ls_base) (And.intro (@ss_term) (And.intro (@ss_voted) (And.intro (@ss_role) (And.intro (@ss_leader) (And.intro (@ss_commit) (And.intro (@ss_novotes) (And.intro (@ss_votes) (And.intro (@ss_es) (And.intro (@eql_int) (And.intro (@neq_int) (And.intro (@lss_int) (And.intro (@gtr_int) (And.intro (@geq_int) (And.intro (@leq_int) (And.intro (@splitK_dec) (And.intro (@condK_dec) (And.intro (@splitK_t) (And.intro (@splitK_f) (And.intro (@condK_t) (And.intro (@condK_f) (And.intro (@extA_0) (And.intro (@extA_1) (And.intro (@extA_2) (And.intro (@not_bool) (And.intro (@Bool.not_true) (And.intro (@Bool.not_false) (And.intro (@neq_nn) (And.intro (@neq_in) (And.intro (@eql_nn) (And.intro (@eql_in) (And.intro (@List.append_assoc.{0}) (@List.cons_append.{0})))))))))))))))))))))))))))))))))))))))))))))))))))))
theorem arA_int {l off : Nat} {x : Int} (h0 : 0 ≤ x) (h : x < 8) : arA 8 1 (.ptr l 1 0 off) (.int .i64 x) = some (.ptr l 1 0 (off + x.toNat)) := by
 simp only [arA]
 rw [if_pos ⟨h0, by omega⟩]
 simp [offA]
theorem callD_nil {env : Env} {g : FuncId} {args bs : List AV} {H : List AObj} {v : AV} (hk : killsL args = []) (h0 : frzL H args = some bs) (h1 : goodL bs = true) (h3 : env g bs [] = some (v, [], [])) : callD env g args H = some v := by
 simp [callD, h0, belL_good 0 bs h1, h3, hk]
/-- what is asked of a node in a step: its log is sound and not too long, its numbers are in their bounds -/
structure SOk (s : Stp) : Prop where
 w : s.wf
 lg : LgOk s.n.log
 sl : soundL s.n.log = true
theorem SOk.es {s : Stp} (h : SOk s) : s.n.log.es.length < 2^40 := h.lg.e
def lastS (s : Stp) : Int := lastL s.n.log
def memsS (s : Stp) : List Int := membersL s.n.log (lastL s.n.log)
section
variable {β : Type} {H P R : List AObj} {s : Stp} {K : Kt β}
theorem frz_lavs (w : s.wf) (vs : List AV) (hg : goodL vs = true) : frzL H (s.lav :: vs) = some (s.n.log.av :: vs) := by
 simp only [frzL, frz_lav w, frzL_good H vs hg, Option.bind_some, Option.map_some]
theorem kills_lavs (vs : List AV) (hg : goodL vs = true) : killsL (s.lav :: vs) = [] := by
 simp only [killsL, kills_lav, killsL_good vs hg, List.append_nil]
theorem log_callK {g : FuncId} {vs : List AV} {v : AV} (w : s.wf) (hg : goodL vs = true) (h : EV C g (s.n.log.av :: vs) [] = some (v, [], [])) : callK (EV C) false g (s.lav :: vs) H K = K v H [] :=
 callK_nil (kills_lavs vs hg) (frz_lavs w vs hg) (by simp [goodL, hg]) h
theorem log_callD {g : FuncId} {vs : List AV} {v : AV} (w : s.wf) (hg : goodL vs = true) (h : EV C g (s.n.log.av :: vs) [] = some (v, [], [])) : callD (EV C) g (s.lav :: vs) H = some v :=
 callD_nil (kills_lavs vs hg) (frz_lavs w vs hg) (by simp [goodL, hg]) h
theorem LastK (h : SOk s) : callK (EV C) false n_log_Last [s.lav] H K = K (.tup [.int .i64 (lastS s), .int .i64 (termL s.n.log (lastS s))]) H [] := by
 refine log_callK h.w rfl ?_
 rw [Last_ok _ h.lg, if_pos h.sl, if_pos h.sl]; rfl
theorem TermV (h : SOk s) (i : Int) : EV C n_log_Term [s.n.log.av, .int .i64 i] [] = some (if hasL s.n.log i = true then .tup [.int .i64 (termL s.n.log i), .nili] else .tup [.int .i64 0, codeA 9], [], []) := by
 rw [Term_ok _ _ h.lg]
 simp only [h.sl, true_and, askedA, if_true]
 split <;> rfl
theorem TermK (h : SOk s) (i : Int) (hi : hasL s.n.log i = true) : callK (EV C) false n_log_Term [s.lav, .int .i64 i] H K = K (.tup [.int .i64 (termL s.n.log i), .nili]) H [] := by
 refine log_callK h.w rfl ?_
 rw [TermV h, if_pos hi]
theorem TermK0 (h : SOk s) (i : Int) (hi : hasL s.n.log i = false) : callK (EV C) false n_log_Term [s.lav, .int .i64 i] H K = K (.tup [.int .i64 0, codeA 9]) H [] := by
 refine log_callK h.w rfl ?_
 rw [TermV h, if_neg (by rw [hi]; decide)]
theorem TermD (h : SOk s) (i : Int) (hi : hasL s.n.log i = true) : callD (EV C) n_log_Term [s.lav, .int .i64 i] H = some (.tup [.int .i64 (termL s.n.log i), .nili]) := by
 refine log_callD h.w rfl ?_
 rw [TermV h, if_pos hi]
theorem TermD0 (h : SOk s) (i : Int) (hi : hasL s.n.log i = false) : callD (EV C) n_log_Term [s.lav, .int .i64 i] H = some (.tup [.int .i64 0, codeA 9]) := by
 refine log_callD h.w rfl ?_
 rw [TermV h, if_neg (by rw [hi]; decide)]
theorem MembersD (h : SOk s) (i : Int) : callD (EV C) n_log_Members [s.lav, .int .i64 i] H = some (ints (membersL s.n.log i)) := by
 refine log_callD h.w rfl ?_
 rw [Members_ok _ _ h.lg, if_pos h.sl]
theorem SliceD (h : SOk s) (i n : Int) : callD (EV C) n_log_Slice [s.lav, .int .i64 i, .int .i64 n] H = some (ents (sliceL s.n.log i n)) := by
 refine log_callD h.w rfl ?_
 rw [Slice_ok _ _ _ h.lg, if_pos h.sl]
end
/-- an end, its length said -/
theorem endB_n {v u : AV} {H P : List AObj} {s' : Stp} {R X : List AObj} (hH : H = hp P s' (R ++ X)) (h0 : frz H v = some u) (h : u.good = true) (hk : kills v = []) : endB false false (P.length + 2 + R.length) v H [] = some (u, hp P s' R, []) :=
 endB_m (s := s') (hp_len P s' R).symm hH h0 h hk
theorem endB_n0 {v : AV} {P R : List AObj} {s' : Stp} (h : v.good = true) : endB false false (P.length + 2 + R.length) v (hp P s' R) [] = some (v, hp P s' R, []) :=
 endB_n (X := []) (by simp) (frz_good _ v h) h (kills_good v h)
theorem endB_n1 {v : AV} {P R : List AObj} {s' : Stp} (X : List AObj) (h : v.good = true) : endB false false (P.length + 2 + R.length) v (hp P s' (R ++ X)) [] = some (v, hp P s' R, []) :=
 endB_n (X := X) rfl (frz_good _ v h) h (kills_good v h)
theorem last_m {s : Stp} (h : SOk s) : Meth n_raft_stepper_last [] s (.int .i64 (lastS s)) s := fun P R => by
 refine raft_stepper_last_of ?_
 dsimp only
 simp -implicitDefEqProofs only [ZS, Nat.reduceAdd, LastK h]
 exact endB_n0 rfl
theorem lastK {s : Stp} (h : SOk s) {β : Type} {P R : List AObj} {K : Kt β} : callK (EV C) false n_raft_stepper_last [.ptr (P.length + 1) 1 0 0] (hp P s R) K = K (.int .i64 (lastS s)) (hp P s R) [] := (last_m h).call0 rfl
theorem members_m {s : Stp} (h : SOk s) : Meth n_raft_stepper_members [] s (ints (memsS s)) s := fun P R => by
 refine raft_stepper_members_of ?_
 dsimp only
 simp -implicitDefEqProofs only [ZS, Nat.reduceAdd, lastK h, drawK_t, MembersD h]
 exact endB_n0 (good_ints _)
theorem membersK {s : Stp} (h : SOk s) {β : Type} {P R : List AObj} {K : Kt β} : callK (EV C) false n_raft_stepper_members [.ptr (P.length + 1) 1 0 0] (hp P s R) K = K (ints (memsS s)) (hp P s R) [] := (members_m h).call0 rfl
def sendF (s : Stp) (to : Int) (m : Msg) : Stp := { s with out := s.out ++ [{ m with frm := s.n.id, to := to, term := s.n.term }] }
theorem litM {m : Msg} (w : m.wf) (z : AV) (zr : AV) (H : List AObj) (hz : frz H z = some zr) : litD 17 1 z [(0, m.av)] H = some (.lst [m.av]) := by
 have g := Msg.avgood w
 have hg : goodL [m.av] = true := by simp [goodL, g]
 unfold litD
 simp only [List.map_cons, List.map_nil, killsL_good _ hg, List.isEmpty_nil, if_true, frzL_good H _ hg, hz, Option.bind_some, List.zip_cons_cons, List.zip_nil_right, List.replicate_one, setS]
 rw [if_pos ⟨Msg.cslen w, by simp, Msg.csone w⟩]
 rfl
theorem send_m {s : Stp} (ws : s.wf) {m : Msg} (wm : m.wf) (to : Int) (ho : s.out.length < 1000000) : Meth n_raft_stepper_send [.int .i64 to, m.av] s (.tup []) (sendF s to m) := fun P R => by
 refine raft_stepper_send_of ?_
 dsimp only
 have w1 : ({ m with frm := s.n.id } : Msg).wf := ⟨wm.len, wm.good, wm.one, wm.shp⟩
 have w2 : ({ m with frm := s.n.id, to := to } : Msg).wf := ⟨wm.len, wm.good, wm.one, wm.shp⟩
 have w3 : ({ m with frm := s.n.id, to := to, term := s.n.term } : Msg).wf := ⟨wm.len, wm.good, wm.one, wm.shp⟩
 simp -implicitDefEqProofs only [ZS, Nat.reduceAdd, new_m wm, sm_frm wm, drawK_t, sm_to w1, sm_term w2, ls_out ws.n, lm_all w3]
 rw [litM w3 _ (.agg _) _ rfl, Option.bind_some, app_out w3 ho]
 simp -implicitDefEqProofs only [ZS, Nat.reduceAdd]
 rw [ss_out ws.n]
 exact endB_n1 [_] rfl
theorem sendF_wf {s : Stp} (ws : s.wf) {m : Msg} (wm : m.wf) (to : Int) : (sendF s to m).wf := ⟨ws.n, ws.vn, ws.en, fun x hx => by
 simp only [sendF, List.mem_append, List.mem_singleton] at hx
 rcases hx with hx | rfl
 · exact ws.out x hx
 · exact ⟨wm.len, wm.good, wm.one, wm.shp⟩⟩
theorem sendF_ok {s : Stp} (h : SOk s) {m : Msg} (wm : m.wf) (to : Int) : SOk (sendF s to m) := ⟨sendF_wf h.w wm to, h.lg, h.sl⟩
/-- a message of its own, as it is first built -/
theorem tail0_wf {m : Msg} (h : m.tail = tail0) : m.wf := ⟨by rw [h]; rfl, by rw [h]; rfl, by rw [h]; rfl, ⟨0, [], 0, _, h⟩⟩
theorem sendK {s : Stp} (ws : s.wf) {m : Msg} (wm : m.wf) (to : Int) (ho : s.out.length < 1000000) {β : Type} {P R : List AObj} {v : AV} {K : Kt β} (hv : ∀ H, frz H v = some m.av) (hk : kills v = []) :
  callK (EV C) false n_raft_stepper_send [.ptr (P.length + 1) 1 0 0, .int .i64 to, v] (hp P s R) K = K (.tup []) (hp P (sendF s to m) R) [] :=
 (send_m ws wm to ho).call (by simp only [frzL, frz, hv, Option.bind_some, Option.map_some]) (by simp only [killsL, kills, hk, List.append_nil])
end Go.Pm
namespace Go.Pm
open Go.Proofs
set_option linter.unusedVariables false
set_option linter.unusedSimpArgs false
section
variable {P R X : List AObj} {s : Stp} {z : Nat} {cs : List AV}
theorem new_R {β : Type} {K : Kt β} (h0 : cs ≠ []) (h1 : cs.all AV.one = true) : newK (.agg cs) (hp P s R) K = K (.ptr (P.length + 2 + R.length) 1 0 0) (hp P s (R ++ [.row cs.length [.agg cs]])) [] := by
 have : newA (.agg cs) (hp P s R) = some (.ptr (P.length + 2 + R.length) 1 0 0, hp P s (R ++ [.row cs.length [.agg cs]]), []) := by
  unfold newA
  rw [show (AV.agg cs).cells = cs from rfl, if_pos ⟨h0, h1⟩, hp_app, hp_len]
 unfold newK; rw [this]; rfl
theorem ld_R {j : Nat} {v : AV} (h : cs[j]? = some v) : loadA false 1 (.ptr (P.length + 2 + R.length) 1 0 j) (hp P s (R ++ .row z [.agg cs] :: X)) = some v := ld_fld (hp_M P s R X _) h
theorem sto_R {n off : Nat} {v : AV} {ds : List AV} {β : Type} {K : List AObj → List Nat → Option β} (hn : v.cells.length = n) (h1 : v.cells.all AV.one = true) (hb : ∀ m, belL m v.cells = true) (hle : off + n ≤ cs.length) (hd : ds = cs.take off ++ v.cells ++ cs.drop (off + n)) :
  stoK n (.ptr (P.length + 2 + R.length) 1 0 off) v (hp P s (R ++ .row z [.agg cs] :: X)) K = K (hp P s (R ++ .row z [.agg ds] :: X)) [] := by
 rw [sto_row (hp_M P s R X _) hn h1 (hb _) hle, ← hd, hp_setR]
 simp
end
theorem Clone_byte_ok (l : List UInt8) (h : l.length ≤ 2^40) : EV C n_Clone_byte [bys l] [] = some (bys l, [], []) := by
 cases l with
 | nil =>
  refine clone_nil (C0 := C0) (l := [n_Clone_byte]) rfl rfl ?_ ?_
  · refine Clone_byte_of ?_
    show endB false false 0 .nils [] [] = _
    exact endB_frz (u := .lst []) rfl rfl
  · refine Clone_byte_of ?_
    show endB false false 0 (.lst []) [] [] = _
    exact endB_good rfl
 | cons x l =>
  rw [show bys (x :: l) = .lst (u8 x :: l.map u8) from rfl, clone_cons (C0 := C0) (l := [n_Clone_byte]) rfl rfl]
  refine Clone_byte_of ?_
  simp only [eql_lst_nil, Option.bind_some, condK_f]
  rw [appD_fresh (ys := u8 x :: l.map u8) rfl rfl (goodL_u8 (x :: l)) (lz_u8 (x :: l)) (by decide) (by decide) (by decide) (by simp at h ⊢; omega), Option.bind_some]
  exact endB_good (good_bys (x :: l))
theorem killAll_last (H : List AObj) (x : AObj) : killAll (H ++ [x]) [H.length] = H ++ [.dead] := by
 simp [killAll]
/-- what a raw copy of a list may be, at heap H: the value, the rows behind H -/
def Cl (H : List AObj) (z : Nat) (es : List AV) (a : AV) (X : List AObj) : Prop := ((a = .emp none ∨ a = .nils) ∧ X = [] ∧ es = []) ∨ (a = .slc H.length 0 es.length es.length ∧ X = [.row z es])
theorem clR_Cl (H : List AObj) (z : Nat) (es : List AV) : ∃ a X, clR H z es = (a, H ++ X, []) ∧ Cl H z es a X := by
 cases es with
 | nil => exact ⟨.emp none, [], by simp [clR], .inl ⟨.inl rfl, rfl, rfl⟩⟩
 | cons e es => exact ⟨_, _, rfl, .inr ⟨rfl, rfl⟩⟩
theorem cl_app {H : List AObj} {z by_ : Nat} {es ys : List AV} {a : AV} {X : List AObj} (ha : Cl H z es a X) (hy : ys.isEmpty = false)
   (hg : goodL es = true) (hgy : goodL ys = true) (hz : lz z ys = true) (h1 : 0 < z) (h2 : 0 < by_) (h3 : by_ ≤ 1048576) (h4 : (es.length + ys.length) * by_ ≤ 140737489400832) {β : Type} {K : Kt β} :
   (appK z by_ a (.lst ys) (H ++ X) fun a' H' E' => frzK a' H' fun a'' H'' => K a'' H'' E') = K (.lst (es ++ ys)) (H ++ [.dead]) [] := by
 rcases ha with ⟨hf, rfl, rfl⟩ | ⟨rfl, rfl⟩
 · rw [appK_fresh hf rfl hy hz h1 h2 h3 (by simpa using h4)]
   unfold frzK
   rw [List.append_nil, frz_row (z := z) (es := ys) (by simp) rfl hgy, Option.bind_some, show kills (.slc H.length 0 ys.length ys.length) = [H.length] from rfl, killAll_last]
   rfl
 · rw [appK_row (l := H.length) (z := z) (es := es) (ys := ys) rfl (by simp) rfl hz h1 h2 h3 h4]
   unfold frzK
   have e : (H ++ [AObj.row z es]).set H.length (.row z (es ++ ys)) = H ++ [.row z (es ++ ys)] := by simp
   rw [e, frz_row (z := z) (es := es ++ ys) (by simp) (by simp) (by rw [goodL_append, hg, hgy]; rfl), Option.bind_some, show kills (.slc H.length 0 (es.length + ys.length) (es.length + ys.length)) = [H.length] from rfl, killAll_last, esc_good hgy]
theorem clone_es {s : Stp} (w : s.wf) (hl : s.n.log.es.length ≤ 2^40) (H : List AObj) : ∃ a X, EV C n_Clone_api_Entry_r [s.eav] H = some (a, H ++ X, []) ∧ Cl H 3 (s.n.log.es.map Ent.av) a X := by
 unfold Stp.eav
 cases he : s.en with
 | true =>
  have := w.en he
  refine ⟨.nils, [], ?_, .inl ⟨.inr rfl, rfl, by rw [this]; rfl⟩⟩
  have hI : C.I n_Clone_api_Entry_r = some (clonesF C0 n_Clone_api_Entry_r) := rfl
  show EV C n_Clone_api_Entry_r [.nils] H = _
  rw [EV_I C hI]
  show EV C0 n_Clone_api_Entry_r [.nils] H = _
  refine Clone_api_Entry_r_of ?_
  simp [endB, endA]; rfl
 | false =>
  obtain ⟨a, X, h1, h2⟩ := clR_Cl H 3 (s.n.log.es.map Ent.av)
  exact ⟨a, X, by rw [← h1]; exact Clone_api_Entry_r_ok _ hl H, h2⟩
theorem clone_votes {s : Stp} (w : s.wf) (hl : s.n.votes.length ≤ 2^40) (H : List AObj) : ∃ a X, EV C n_Clone_int_r [s.vav] H = some (a, H ++ X, []) ∧ Cl H 1 (s.n.votes.map i64) a X := by
 unfold Stp.vav
 cases he : s.vn with
 | true =>
  have := w.vn he
  refine ⟨.nils, [], ?_, .inl ⟨.inr rfl, rfl, by rw [this]; rfl⟩⟩
  have hI : C.I n_Clone_int_r = some (clonesF C0 n_Clone_int_r) := rfl
  show EV C n_Clone_int_r [.nils] H = _
  rw [EV_I C hI]
  show EV C0 n_Clone_int_r [.nils] H = _
  refine Clone_int_r_of ?_
  simp [endB, endA]; rfl
 | false =>
  obtain ⟨a, X, h1, h2⟩ := clR_Cl H 1 (s.n.votes.map i64)
  exact ⟨a, X, by rw [← h1]; exact Clone_int_r_ok _ hl H, h2⟩
def addF (s : Stp) (kind : Int) (data : List UInt8) : Stp := if most ≤ lastS s then s else { s with n := { s.n with log := { s.n.log with es := s.n.log.es ++ [⟨s.n.term, kind, data⟩] } }, en := false }
theorem litEn (e : Ent) (z zr : AV) (H : List AObj) (hz : frz H z = some zr) : litD 3 1 z [(0, e.av)] H = some (.lst [e.av]) := by
 have hg : goodL [e.av] = true := by simp [goodL]
 unfold litD
 simp only [List.map_cons, List.map_nil, killsL_good _ hg, List.isEmpty_nil, if_true, frzL_good H _ hg, hz, Option.bind_some, List.zip_cons_cons, List.zip_nil_right, List.replicate_one, setS]
 rw [if_pos ⟨rfl, by simp, rfl⟩]
 rfl
theorem fillE (t k : Int) (d : List UInt8) : fillB (AV.cells (.agg [.int .i64 0, .int .i64 0, .nils])) [(0, 1, .int .i64 t), (1, 1, .int .i64 k), (2, 1, bys d)] = some [.int .i64 t, .int .i64 k, bys d] := rfl
theorem add_m {s : Stp} (h : SOk s) (kind : Int) (data : List UInt8) (hd : data.length ≤ 2^40) : Meth n_raft_stepper_add [.int .i64 kind, bys data] s (.tup []) (addF s kind data) := fun P R => by
 refine raft_stepper_add_of ?_
 dsimp only
 simp -implicitDefEqProofs only [ZS, Nat.reduceAdd, lastK h]
 unfold addF most
 by_cases hm : 1152921504606846976 ≤ lastS s
 · rw [if_pos hm, if_pos hm]
   exact endB_n0 rfl
 · rw [if_neg hm, if_neg hm]
   simp -implicitDefEqProofs only [ZS, Nat.reduceAdd]
   obtain ⟨a, X, h1, h2⟩ := clone_es h.w (by have := h.es; omega) (hp P s R)
   rw [callK_raw h1]
   simp -implicitDefEqProofs only [ZS, Nat.reduceAdd, drawK_t, callD_ok (show goodL [bys data] = true by simp [goodL]) (Clone_byte_ok data hd), fillE]
   rw [show AV.agg [.int .i64 s.n.term, .int .i64 kind, bys data] = (Ent.mk s.n.term kind data).av from rfl, litEn _ _ _ _ rfl, Option.bind_some, ← hp_app P s R X, cl_app h2 rfl (goodL_ents _) (by simp [goodL]) rfl (by decide) (by decide) (by decide) (by have := h.es; simp; omega)]
   have e : AV.lst (s.n.log.es.map Ent.av ++ [(Ent.mk s.n.term kind data).av]) = ents (s.n.log.es ++ [⟨s.n.term, kind, data⟩]) := by simp [ents]
   rw [e]
   simp -implicitDefEqProofs only [ZS, Nat.reduceAdd]
   exact endB_n1 [.dead] rfl
end Go.Pm
namespace Go.Pm
open Go.Proofs
set_option linter.unusedVariables false
set_option linter.unusedSimpArgs false
theorem incr_mem : ∀ {l : List Int} {p : Int}, incr p l = true → ∀ x ∈ l, p < x ∧ x ≤ 7
 | [], _, _, x, hx => by simp at hx
 | y :: l, p, h, x, hx => by
  simp only [incr, Bool.and_eq_true, decide_eq_true_eq] at h
  rcases List.mem_cons.1 hx with rfl | hx
  · exact ⟨h.1, h.2.1⟩
  · have := incr_mem h.2.2 x hx
    omega
theorem incr_len7 : ∀ {l : List Int} {p : Int}, 0 ≤ p → incr p l = true → l = [] ∨ p + l.length ≤ 7
 | [], _, _, _ => .inl rfl
 | y :: l, p, hp, h => by
  simp only [incr, Bool.and_eq_true, decide_eq_true_eq] at h
  rcases incr_len7 (by omega) h.2.2 with rfl | h2
  · right; simp; omega
  · right; simp; omega
theorem may_mem {l : List Int} (h : mayL l = true) : ∀ x ∈ l, 1 ≤ x ∧ x ≤ 7 := fun x hx => by
 simp only [mayL, Bool.and_eq_true] at h
 have := incr_mem h.2 x hx; omega
theorem may_len {l : List Int} (h : mayL l = true) : l.length ≤ 7 := by
 simp only [mayL, Bool.and_eq_true, decide_eq_true_eq] at h
 rcases incr_len7 (by omega) h.2 with rfl | h2
 · simp at h
 · omega
theorem memF_may : ∀ (l : List Ent) (out : List Int), mayL out = true → (∀ e ∈ l, e.kind = 2 → mayL (ofB e.data) = true) → mayL (memF out l) = true
 | [], out, h, _ => h
 | e :: l, out, h, he => by
  refine memF_may l _ ?_ fun x hx => he x (List.mem_cons_of_mem _ hx)
  split
  · exact he e (by simp) ‹_›
  · exact h
theorem members_may {g : Lg} (h : soundL g = true) (i : Int) : mayL (membersL g i) = true := by
 have h1 : mayL g.mems = true := by
  simp only [soundL, Bool.and_eq_true] at h; exact h.2.1
 exact memF_may _ _ h1 fun e he => sound_may h e (List.mem_of_mem_take he)
/-- what is asked besides: numbers that are looked up or counted on are in their bounds -/
structure SGd (s : Stp) : Prop extends SOk s where
 id0 : 1 ≤ s.n.id
 id1 : s.n.id ≤ 7
 nx : ∀ i, i < 8 → 0 ≤ s.n.next.getD i 0 ∧ s.n.next.getD i 0 ≤ most
 mt : ∀ i, i < 8 → 0 ≤ s.n.mtch.getD i 0 ∧ s.n.mtch.getD i 0 ≤ most
 c0 : s.n.log.index ≤ s.n.commit
 c1 : s.n.commit ≤ lastL s.n.log
theorem SOk.sm {s : Stp} (h : SOk s) : Small s.n.log := sound_small h.sl
theorem SOk.last {s : Stp} (h : SOk s) : 0 ≤ s.n.log.index ∧ s.n.log.index ≤ lastS s ∧ lastS s ≤ most := by
 have h1 := h.sm.i0; have h2 := h.sm.i1
 unfold lastS lastL; omega
theorem SOk.mems {s : Stp} (h : SOk s) : mayL (memsS s) = true := members_may h.sl _
section
variable {P R X : List AObj} {s : Stp} {a b c : AV}
theorem lb_0 : loadA false 1 (.ptr (P.length + 2 + R.length) 1 0 0) (hp P s (R ++ .row 3 [.agg [a, b, c]] :: X)) = some a := ld_R rfl
theorem lb_1 : loadA false 1 (.ptr (P.length + 2 + R.length) 1 0 1) (hp P s (R ++ .row 3 [.agg [a, b, c]] :: X)) = some b := ld_R rfl
theorem lb_2 : loadA false 1 (.ptr (P.length + 2 + R.length) 1 0 2) (hp P s (R ++ .row 3 [.agg [a, b, c]] :: X)) = some c := ld_R rfl
end
def msg0 (kind : Int) : Msg := ⟨kind, 0, 0, 0, 0, 0, 0, false, [], [], tail0⟩
def bringM (n : Nde) (to : Int) : Msg :=
 if n.next.getD to.toNat 0 ≤ n.log.index then { msg0 5 with index := n.log.index, lterm := n.log.term, mems := n.log.mems }
 else
  let p := if lastL n.log < n.next.getD to.toNat 0 - 1 then lastL n.log else n.next.getD to.toNat 0 - 1
  { msg0 3 with index := p, lterm := termL n.log p, es := sliceL n.log (p + 1) 8, commit := n.commit }
theorem bringM_wf (n : Nde) (to : Int) : (bringM n to).wf := by
 unfold bringM
 split
 · exact tail0_wf rfl
 · exact tail0_wf rfl
theorem bring_m {s : Stp} (h : SGd s) (to : Int) (h0 : 0 ≤ to) (h8 : to < 8) (ho : s.out.length < 1000000) : Meth n_raft_stepper_bring [.int .i64 to] s (.tup []) (sendF s to (bringM s.n to)) := fun P R => by
 refine raft_stepper_bring_of ?_
 have hi : to.toNat < 8 := by omega
 have hl := h.last
 have hnx := h.nx _ hi
 have hmo : most = 1152921504606846976 := rfl
 have wf := bringM_wf s.n to
 unfold bringM at wf
 dsimp only
 simp -implicitDefEqProofs only [ZS, Nat.reduceAdd]
 rw [new_R (by simp) rfl]
 have e1 : ∀ (K : List AObj → List Nat → Option R3), stoK 3 (.ptr (P.length + 2 + R.length) 1 0 0) s.n.log.base (hp P s (R ++ [.row ([(.int .i64 0), (.int .i64 0), .nils] : List AV).length [.agg [(.int .i64 0), (.int .i64 0), .nils]]])) K = K (hp P s (R ++ .row 3 [.agg [.int .i64 s.n.log.index, .int .i64 s.n.log.term, ints s.n.log.mems]] :: [])) [] := fun K => sto_R rfl rfl (fun m => by simp [Lg.base, AV.cells, belL, AV.bel, ints, belL_good _ _ (goodL_i64 _)]) (Nat.le_refl _) rfl
 simp -implicitDefEqProofs only [ZS, Nat.reduceAdd, arA_int h0 h8, ls_next h.w.n hi, e1, lb_0, lb_1, lb_2]
 by_cases hc : s.n.next.getD to.toNat 0 ≤ s.n.log.index
 · rw [if_pos hc] at wf
   rw [if_pos hc]
   rw [callD_ok (by simp [goodL]) (Clone_int_ok _ (by have := may_len (show mayL s.n.log.mems = true by have := h.sl; simp only [soundL, Bool.and_eq_true] at this; exact this.2.1); omega)), Option.bind_some]
   rw [show bringM s.n to = { msg0 5 with index := s.n.log.index, lterm := s.n.log.term, mems := s.n.log.mems } from if_pos hc]
   refine Eq.trans (b := _) (congrArg (fun x => Option.bind x _) (show fillB _ _ = some [.int .i64 5, .int .i64 0, .int .i64 0, .int .i64 0, .int .i64 s.n.log.index, .int .i64 s.n.log.term, .int .i64 0, .bool false, .nils, ints s.n.log.mems, .int .i64 0, .nils, .int .i64 0, .nils, .nils, .nils, .nils] from rfl)) ?_
   rw [Option.bind_some, sendK h.w wf to ho (fun H => rfl) rfl]
   exact endB_n1 [_] rfl
 · rw [if_neg hc] at wf
   rw [if_neg hc]
   have e2 : IntKind.i64.wrap (s.n.next.getD to.toNat 0 - 1) = s.n.next.getD to.toNat 0 - 1 := wrap64 (by omega) (by omega)
   simp -implicitDefEqProofs only [ZS, Nat.reduceAdd, sub_int, e2, lastK h.toSOk, minA]
   rw [show bringM s.n to = _ from if_neg hc]
   dsimp only at wf ⊢
   have hp0 : ∃ p, p = (if lastL s.n.log < s.n.next.getD to.toNat 0 - 1 then lastL s.n.log else s.n.next.getD to.toNat 0 - 1) := ⟨_, rfl⟩
   obtain ⟨p, hp1⟩ := hp0
   rw [← hp1] at wf ⊢
   rw [show (if lastS s < s.n.next.getD to.toNat 0 - 1 then lastS s else s.n.next.getD to.toNat 0 - 1) = p from hp1.symm]
   have hb : s.n.log.index ≤ p ∧ p ≤ lastL s.n.log := by
    have : lastS s = lastL s.n.log := rfl
    rw [hp1]; split <;> omega
   have e3 : IntKind.i64.wrap (p + 1) = p + 1 := wrap64 (by omega) (by have : lastS s = lastL s.n.log := rfl; omega)
   simp -implicitDefEqProofs only [ZS, Nat.reduceAdd, add_int, e3, TermK h.toSOk p (hasL_iff.2 hb), SliceD h.toSOk]
   refine Eq.trans (b := _) (congrArg (fun x => Option.bind x _) (show fillB _ _ = some [.int .i64 3, .int .i64 0, .int .i64 0, .int .i64 0, .int .i64 p, .int .i64 (termL s.n.log p), .int .i64 s.n.commit, .bool false, ents (sliceL s.n.log (p + 1) 8), .nils, .int .i64 0, .nils, .int .i64 0, .nils, .nils, .nils, .nils] from rfl)) ?_
   rw [Option.bind_some, sendK h.w wf to ho (fun H => rfl) rfl]
   exact endB_n1 [_] rfl
end Go.Pm
namespace Go.Pm
open Go.Proofs
set_option linter.unusedVariables false
set_option linter.unusedSimpArgs false
theorem endB_H {v : AV} {H : List AObj} (h : v.good = true) : endB false false H.length v H [] = some (v, H, []) := by
 unfold endB endA
 simp only [Bool.false_eq_true, if_false, frz_good H v h, Option.map_some, Option.bind_some, kills_good v h, killAll]
 rw [if_pos ⟨bel_good _ v h, rfl⟩, List.take_of_length_le (Nat.le_refl _)]
def idxE (p : Ent → Bool) (i : Nat) : List Ent → Int
 | [] => -1
 | e :: l => if p e = true then (i : Int) else idxE p (i + 1) l
theorem idxE_any (p : Ent → Bool) : ∀ (l : List Ent) (i : Nat), decide (0 ≤ idxE p i l) = l.any p
 | [], i => rfl
 | e :: l, i => by
  unfold idxE
  cases h : p e with
  | true => simp [h]
  | false => simp [h, idxE_any p l (i + 1)]
theorem indexFunc_J2 (l : List Ent) (cl : AV) (p : Ent → Bool) (n : Nat) (H : List AObj) (hn : n = H.length) (hl : l.length < 2^60) (hf : ∀ e ∈ l, ∀ K : AV → List AObj → List Nat → Option R3, valK Tryz.prog (EV C) false cl [e.av] H K = K (.bool (p e)) H []) : ∀ (m i : Nat), i + m = l.length →
  IndexFunc_api_Entry_J2 n (ents l) cl (.int .i64 (l.length : Int)) (.int .i64 (i : Int)) H [] = some (.int .i64 (idxE p i (l.drop i)), H, [])
 | 0, i, hi => by
  refine IndexFunc_api_Entry_J2_of ?_
  simp -implicitDefEqProofs only [lss_int, Option.bind_some, condK_dec]
  rw [if_neg (by omega), List.drop_eq_nil_of_le (by omega), hn]
  exact endB_H rfl
 | m + 1, i, hi => by
  refine IndexFunc_api_Entry_J2_of ?_
  have h : i < l.length := by omega
  simp -implicitDefEqProofs only [lss_int, Option.bind_some, condK_dec]
  rw [if_pos (by omega), ixA_ents (List.getElem?_eq_getElem h), Option.bind_some, loadA_ent, Option.bind_some, hf _ (List.getElem_mem h), List.drop_eq_getElem_cons h, idxE]
  cases hp : p l[i] with
  | true =>
   simp -implicitDefEqProofs only [condK_t, List.append_nil, if_true]
   rw [hn]; exact endB_H rfl
  | false =>
   simp -implicitDefEqProofs only [condK_f, List.append_nil, add_int, Option.bind_some, Bool.false_eq_true, if_false]
   rw [show IntKind.i64.wrap ((i : Int) + 1) = ((i + 1 : Nat) : Int) from by rw [wrap64 (by omega) (by omega)]; omega]
   exact indexFunc_J2 l cl p n H hn hl hf m (i + 1) (by omega)
theorem contFunc_ok (l : List Ent) (cl : AV) (p : Ent → Bool) (H : List AObj) (hl : l.length < 2^60) (h1 : frz H cl = some cl) (h2 : kills cl = []) (h3 : cl.bel 0 = false) (hf : ∀ e ∈ l, ∀ K : AV → List AObj → List Nat → Option R3, valK Tryz.prog (EV C) false cl [e.av] H K = K (.bool (p e)) H []) : EV C n_ContainsFunc_api_Entry [ents l, cl] H = some (.bool (l.any p), H, []) := by
 refine ContainsFunc_api_Entry_of ?_
 dsimp only
 have hi : EV C n_IndexFunc_api_Entry [ents l, cl] H = some (.int .i64 (idxE p 0 l), H, []) := by
  refine IndexFunc_api_Entry_of ?_
  dsimp only
  rw [lenV_ents, Option.bind_some]
  simpa using indexFunc_J2 l cl p H.length H rfl hl hf l.length 0 (by omega)
 have hc : callA (EV C) false n_IndexFunc_api_Entry [ents l, cl] H = some (.int .i64 (idxE p 0 l), H, []) := by
  unfold callA
  rw [if_neg (by decide), show frzL H [ents l, cl] = some [ents l, cl] from by simp only [frzL, h1, Option.bind_some, Option.map_some]; rw [frz_good H _ (good_ents l)]; rfl, Option.bind_some, if_neg (by simp [belL, h3]), show killsL [ents l, cl] = [] from by simp only [killsL, h2, kills_good _ (good_ents l), List.append_nil]]
  exact hi
 unfold callK
 rw [hc, Option.bind_some]
 simp -implicitDefEqProofs only [geq_int, Option.bind_some, List.append_nil, idxE_any]
 exact endB_H rfl
theorem contFunc_ok0 (l : List Ent) (g : FuncId) (p : Ent → Bool) (hl : l.length < 2^60) (hg : okF Tryz.prog g = true) (hf : ∀ e ∈ l, EV C g [e.av] [] = some (.bool (p e), [], [])) : EV C n_ContainsFunc_api_Entry [ents l, .clo g [] []] [] = some (.bool (l.any p), [], []) := by
 refine ContainsFunc_api_Entry_of ?_
 dsimp only
 have hi : EV C n_IndexFunc_api_Entry [ents l, .clo g [] []] [] = some (.int .i64 (idxE p 0 l), [], []) := by
  refine IndexFunc_api_Entry_of ?_
  dsimp only
  rw [lenV_ents, Option.bind_some]
  refine (indexFunc_J2 l (.clo g [] []) p 0 [] rfl hl (fun e he K => ?_) l.length 0 (by omega)).trans (by rw [List.drop_zero])
  unfold valK
  dsimp only
  rw [if_pos hg]
  exact callK_ok (by simp [goodL]) (hf e he)
 rw [callK_ok (by simp [goodL, AV.good]) hi]
 simp -implicitDefEqProofs only [geq_int, Option.bind_some, List.append_nil, idxE_any]
 exact endB_good rfl
def pendN (n : Nde) : Bool := (sliceL n.log (n.commit + 1) (lastL n.log)).any fun e => decide (e.kind = 2)
def pendF (s : Stp) : Bool := pendN s.n
theorem pend1_ok (e : Ent) : EV C n_raft_stepper_pending_1 [e.av] [] = some (.bool (decide (e.kind = 2)), [], []) := by
 refine raft_stepper_pending_1_of ?_
 have n1 : newK e.av [] = fun (K : AV → List AObj → List Nat → Option R3) => K (.ptr 0 1 0 0) [.row 3 [e.av]] [] := rfl
 rw [n1]
 simp -implicitDefEqProofs only [offA_ptr, Option.bind_some, Nat.zero_add, ld_ent0_k, eql_int]
 exact endB_good rfl
theorem slice_len (g : Lg) (i n : Int) : (sliceL g i n).length ≤ g.es.length := by
 unfold sliceL; split
 · simp [List.length_take, List.length_drop]; omega
 · simp
theorem pending_m {s : Stp} (h : SGd s) : Meth n_raft_stepper_pending [] s (.bool (pendF s)) s := fun P R => by
 refine raft_stepper_pending_of ?_
 dsimp only
 have hl := h.last; have c0 := h.c0; have c1 := h.c1
 have hmo : most = 1152921504606846976 := rfl
 have e1 : IntKind.i64.wrap (s.n.commit + 1) = s.n.commit + 1 := wrap64 (by omega) (by have : lastS s = lastL s.n.log := rfl; omega)
 simp -implicitDefEqProofs only [ZS, Nat.reduceAdd, add_int, e1, lastK h.toSOk, drawK_t, SliceD h.toSOk]
 rw [callK_ok (by simp [goodL, AV.good]) (contFunc_ok0 _ n_raft_stepper_pending_1 (fun e => decide (e.kind = 2)) (by have := slice_len s.n.log (s.n.commit + 1) (lastS s); have := h.es; omega) (by kernel_rfl) fun e _ => pend1_ok e)]
 exact endB_n0 rfl
theorem pendingK {s : Stp} (h : SGd s) {β : Type} {P R : List AObj} {K : Kt β} : callK (EV C) false n_raft_stepper_pending [.ptr (P.length + 1) 1 0 0] (hp P s R) K = K (.bool (pendF s)) (hp P s R) [] := (pending_m h).call0 rfl
theorem confHasK (l : List Int) (x : Int) (hl : l.length ≤ 2^60) {β : Type} {H : List AObj} {K : Kt β} : callK (EV C) false n_conf_Has [ints l, .int .i64 x] H K = K (.bool (hasF l x)) H [] := callK_ok (by simp [goodL, AV.good]) (confHas_ok l x hl)
theorem SOk.ml {s : Stp} (h : SOk s) : (memsS s).length ≤ 2^60 := by have := may_len h.mems; omega
def othersF (s : Stp) (l : List Int) (mk : Int → Msg) : Stp := l.foldl (fun s id => if id = s.n.id then s else sendF s id (mk id)) s
theorem others_eq {s : Stp} {mk : Int → Msg} {x : Int} {l : List Int} (h : x = s.n.id) : othersF s (x :: l) mk = othersF s l mk := by
 show othersF (if x = s.n.id then s else sendF s x (mk x)) l mk = _
 rw [if_pos h]
theorem others_ne {s : Stp} {mk : Int → Msg} {x : Int} {l : List Int} (h : ¬ x = s.n.id) : othersF s (x :: l) mk = othersF (sendF s x (mk x)) l mk := by
 show othersF (if x = s.n.id then s else sendF s x (mk x)) l mk = _
 rw [if_neg h]
theorem others_wf (mk : Int → Msg) (hm : ∀ i, (mk i).wf) : ∀ (l : List Int) (s : Stp), s.wf → (othersF s l mk).wf
 | [], s, w => w
 | x :: l, s, w => by
  by_cases hx : x = s.n.id
  · rw [others_eq hx]; exact others_wf mk hm l s w
  · rw [others_ne hx]; exact others_wf mk hm l _ (sendF_wf w (hm x) x)
theorem others_J1 (s0 : Stp) (h0 : SOk s0) (cl : AV) (mk : Int → Msg) (P R : List AObj) (hm : ∀ i, (mk i).wf) (hcl : ∀ (s : Stp) (id : Int), s.n = s0.n → s.wf → s.out.length < 1000000 → 1 ≤ id → id ≤ 7 → ∀ K : AV → List AObj → List Nat → Option R3, valK Tryz.prog (EV C) false cl [.int .i64 id] (hp P s R) K = K (.tup []) (hp P (sendF s id (mk id)) R) []) :
  ∀ (m i : Nat) (s : Stp), i + m = (memsS s0).length → s.n = s0.n → s.wf → s.out.length + m < 1000000 →
  raft_stepper_others_J1 (P.length + 2 + R.length) (.ptr (P.length + 1) 1 0 0) cl (ints (memsS s0)) (.int .i64 ((memsS s0).length : Int)) (.int .i64 (i : Int)) (hp P s R) [] = some (.tup [], hp P (othersF s ((memsS s0).drop i) mk) R, [])
 | 0, i, s, hi, hn, hw, ho => by
  refine raft_stepper_others_J1_of ?_
  simp -implicitDefEqProofs only [lss_int, Option.bind_some, condK_dec]
  rw [if_neg (by omega), List.drop_eq_nil_of_le (by omega)]
  exact endB_n0 rfl
 | m + 1, i, s, hi, hn, hw, ho => by
  refine raft_stepper_others_J1_of ?_
  have hlt : i < (memsS s0).length := by omega
  have hml := may_len h0.mems
  have hmem := may_mem h0.mems _ (List.getElem_mem hlt)
  have e3 : IntKind.i64.wrap ((i : Int) + 1) = ((i + 1 : Nat) : Int) := w64 (by omega) (by omega)
  simp -implicitDefEqProofs only [lss_int, Option.bind_some, condK_dec]
  rw [if_pos (by omega), ix_ints hlt, Option.bind_some, ld_i, Option.bind_some]
  simp -implicitDefEqProofs only [ZS, Nat.reduceAdd]
  rw [List.drop_eq_getElem_cons hlt]
  by_cases hx : (memsS s0)[i] = s.n.id
  · rw [show (decide ((memsS s0)[i] = s.n.id)) = true from decide_eq_true hx]
    simp -implicitDefEqProofs only [ZS, Nat.reduceAdd, add_int, e3]
    rw [others_eq hx]
    exact others_J1 s0 h0 cl mk P R hm hcl m (i + 1) s (by omega) hn hw (by omega)
  · rw [show (decide ((memsS s0)[i] = s.n.id)) = false from decide_eq_false hx]
    simp -implicitDefEqProofs only [ZS, Nat.reduceAdd]
    rw [hcl s _ hn hw (by omega) hmem.1 hmem.2, others_ne hx]
    simp -implicitDefEqProofs only [ZS, Nat.reduceAdd, add_int, e3]
    exact others_J1 s0 h0 cl mk P R hm hcl m (i + 1) _ (by omega) hn (sendF_wf hw (hm _) _) (by simp [sendF]; omega)
theorem others_ok {s : Stp} (h : SOk s) (cl : AV) (mk : Int → Msg) (P R : List AObj) (hm : ∀ i, (mk i).wf) (ho : s.out.length < 900000) (hcl : ∀ (s' : Stp) (id : Int), s'.n = s.n → s'.wf → s'.out.length < 1000000 → 1 ≤ id → id ≤ 7 → ∀ K : AV → List AObj → List Nat → Option R3, valK Tryz.prog (EV C) false cl [.int .i64 id] (hp P s' R) K = K (.tup []) (hp P (sendF s' id (mk id)) R) []) :
  EV C n_raft_stepper_others [.ptr (P.length + 1) 1 0 0, cl] (hp P s R) = some (.tup [], hp P (othersF s (memsS s) mk) R, []) := by
 refine raft_stepper_others_of ?_
 dsimp only
 have hml := may_len h.mems
 simp -implicitDefEqProofs only [ZS, Nat.reduceAdd, membersK h, lenV_ints]
 simpa using others_J1 s h cl mk P R hm hcl (memsS s).length 0 s (by omega) rfl h.w (by omega)
/-- the messages that bring it up to date -/
theorem othersBring_m {s : Stp} (h : SGd s) (ho : s.out.length < 900000) {β : Type} {P R : List AObj} {K : Kt β} :
  callK (EV C) false n_raft_stepper_others [.ptr (P.length + 1) 1 0 0, .clo n_raft_stepper_bring [.ptr (P.length + 1) 1 0 0] []] (hp P s R) K = K (.tup []) (hp P (othersF s (memsS s) (bringM s.n)) R) [] := by
 have e : callA (EV C) false n_raft_stepper_others [.ptr (P.length + 1) 1 0 0, .clo n_raft_stepper_bring [.ptr (P.length + 1) 1 0 0] []] (hp P s R) = some (.tup [], hp P (othersF s (memsS s) (bringM s.n)) R, []) := by
  unfold callA
  rw [if_neg (by decide), show frzL (hp P s R) [AV.ptr (P.length + 1) 1 0 0, .clo n_raft_stepper_bring [.ptr (P.length + 1) 1 0 0] []] = some [AV.ptr (P.length + 1) 1 0 0, .clo n_raft_stepper_bring [.ptr (P.length + 1) 1 0 0] []] from rfl, Option.bind_some, if_neg (by simp [belL, AV.bel]), show killsL [AV.ptr (P.length + 1) 1 0 0, .clo n_raft_stepper_bring [.ptr (P.length + 1) 1 0 0] []] = [] from rfl]
  refine others_ok h.toSOk _ (bringM s.n) P R (bringM_wf _) ho fun s' id hn hw hol h1 h7 K => ?_
  unfold valK
  dsimp only
  rw [if_pos (by kernel_rfl)]
  have hg' : SGd s' := ⟨⟨hw, by rw [hn]; exact h.lg, by rw [hn]; exact h.sl⟩, by rw [hn]; exact h.id0, by rw [hn]; exact h.id1, by rw [hn]; exact h.nx, by rw [hn]; exact h.mt, by rw [hn]; exact h.c0, by rw [hn]; exact h.c1⟩
  rw [← hn]
  exact (bring_m hg' id (by omega) (by omega) hol).call0 rfl
 unfold callK; rw [e]; rfl
end Go.Pm
namespace Go.Pm
open Go.Proofs
set_option linter.unusedVariables false
set_option linter.unusedSimpArgs false
theorem ixV_m {l : List Int} (h8 : l.length = 8) {j : Nat} (hj : j < 8) : ixV 8 false 1 (.agg (l.map i64)) (.int .i64 (j : Int)) = some (.int .i64 (l.getD j 0)) := by
 simp only [ixV]
 rw [if_pos ⟨by omega, by omega⟩]
 simp only [ldv, Bool.false_eq_true, if_false, Int.toNat_natCast, Nat.mul_one, List.getElem?_drop, Nat.add_zero, List.getElem?_map, List.getD_eq_getElem?_getD]
 rw [List.getElem?_eq_getElem (by omega)]; rfl
theorem litIn {β : Type} {x : Int} {z zr : AV} {H : List AObj} {K : Kt β} (hz : frz H z = some zr) : litK 1 1 z [(0, .int .i64 x)] H K = K (ints [x]) H [] := by
 unfold litK
 simp only [List.map_cons, List.map_nil, frzL, frz, hz, Option.bind_some, Option.map_some, List.zip_cons_cons, List.zip_nil_right, List.replicate_one, setS]
 rw [if_pos ⟨rfl, by simp, rfl⟩]
 rfl
theorem frz_have {P R : List AObj} {s : Stp} (c : List Int) (m : List Int) : frzL (hp P s (R ++ [vro 1 (c.map i64)])) [ints m, .slc (P.length + 2 + R.length) 0 c.length c.length] = some [ints m, ints c] := by
 have h1 : frz (hp P s (R ++ [vro 1 (c.map i64)])) (ints m) = some (ints m) := frz_good _ _ (good_ints m)
 have h2 : frz (hp P s (R ++ [vro 1 (c.map i64)])) (.slc (P.length + 2 + R.length) 0 c.length c.length) = some (.lst (c.map i64)) := frz_vro (z := 1) (hp_M P s R [] _) (by simp) (goodL_i64 c)
 simp only [frzL, h1, h2, Option.bind_some, Option.map_some]; rfl
/-- who has index i -/
def haveFrom (mt : List Int) (i : Int) (j : Nat) : Nat → List Int
 | 0 => []
 | m + 1 => if i ≤ mt.getD j 0 then (j : Int) :: haveFrom mt i (j + 1) m else haveFrom mt i (j + 1) m
def haveF (mt : List Int) (i : Int) : List Int := haveFrom mt i 0 8
/-- it leads no longer when it is no member and nothing is pending -/
def outF (s : Stp) : Stp := if (!hasF (memsS s) s.n.id && !pendF s) = true then { s with n := { s.n with role := 0, leader := 0 } } else s
def cLoop (s : Stp) : Nat → Stp
 | 0 => s
 | k + 1 => if termL s.n.log (s.n.commit + (k + 1 : Nat)) = s.n.term then (if mostF (memsS s) (haveF s.n.mtch (s.n.commit + (k + 1 : Nat))) = true then { s with n := { s.n with commit := s.n.commit + (k + 1 : Nat) } } else cLoop s k) else s
theorem SGd.commit {s : Stp} (h : SGd s) {i : Int} (h0 : s.n.log.index ≤ i) (h1 : i ≤ lastL s.n.log) : SGd { s with n := { s.n with commit := i } } :=
 ⟨⟨⟨⟨h.w.n.ln, h.w.n.lm⟩, h.w.vn, h.w.en, h.w.out⟩, h.lg, h.sl⟩, h.id0, h.id1, h.nx, h.mt, h0, h1⟩
theorem outF_gd {s : Stp} (h : SGd s) : SGd (outF s) := by
 unfold outF; split
 · exact ⟨⟨⟨⟨h.w.n.ln, h.w.n.lm⟩, h.w.vn, h.w.en, h.w.out⟩, h.lg, h.sl⟩, h.id0, h.id1, h.nx, h.mt, h.c0, h.c1⟩
 · exact h
theorem cLoop_gd {s : Stp} (h : SGd s) : ∀ (k : Nat), s.n.commit + k ≤ lastL s.n.log → SGd (cLoop s k)
 | 0, _ => h
 | k + 1, hk => by
  have hc := h.c0
  unfold cLoop; split
  · split
    · exact h.commit (by omega) hk
    · exact cLoop_gd h k (by omega)
  · exact h
set_option maxHeartbeats 1000000 in
theorem counts_J (s : Stp) (h : SGd s) (P R : List AObj) : ∀ (k : Nat), s.n.commit + k ≤ lastL s.n.log →
  raft_stepper_counts_J4 (P.length + 2 + R.length) (.ptr (P.length + 1) 1 0 0) (.ptr (P.length + 1) 1 0 0) (ints (memsS s)) (.int .i64 (s.n.commit + (k : Int))) (hp P s R) [] = some (.tup [], hp P (outF (cLoop s k)) R, [])
 | 0, hk => by
  refine raft_stepper_counts_J4_of ?_
  have ml := h.ml
  have hlt : ¬ s.n.commit < s.n.commit + ((0 : Nat) : Int) := by omega
  simp -implicitDefEqProofs only [ZS, Nat.reduceAdd]
  rw [if_neg hlt]
  simp -implicitDefEqProofs only [ZS, Nat.reduceAdd, confHasK _ _ ml]
  unfold cLoop outF
  cases h1 : hasF (memsS s) s.n.id with
  | true =>
    simp -implicitDefEqProofs only [ZS, Nat.reduceAdd, Bool.false_and, Bool.false_eq_true, if_false]
    exact endB_n0 rfl
  | false =>
    simp -implicitDefEqProofs only [ZS, Nat.reduceAdd, pendingK h]
    cases h2 : pendF s with
    | true =>
     simp -implicitDefEqProofs only [ZS, Nat.reduceAdd, Bool.and_false, Bool.false_eq_true, if_false]
     exact endB_n0 rfl
    | false =>
     simp -implicitDefEqProofs only [ZS, Nat.reduceAdd, Bool.and_self, if_true]
     exact endB_n0 rfl
 | k + 1, hk => by
  refine raft_stepper_counts_J4_of ?_
  have ml := h.ml
  have c0 := h.c0; have c1 := h.c1; have hl := h.last
  have hll : lastS s = lastL s.n.log := rfl
  have hmo : most = 1152921504606846976 := rfl
  have hlt : s.n.commit < s.n.commit + ((k + 1 : Nat) : Int) := by omega
  have hhas : hasL s.n.log (s.n.commit + ((k + 1 : Nat) : Int)) = true := hasL_iff.2 ⟨by omega, by unfold lastL at hk; exact hk⟩
  obtain ⟨i, hi⟩ : ∃ i, i = s.n.commit + ((k + 1 : Nat) : Int) := ⟨_, rfl⟩
  unfold cLoop
  rw [← hi] at hlt hhas hk ⊢
  simp -implicitDefEqProofs only [ZS, Nat.reduceAdd]
  rw [if_pos hlt]
  simp -implicitDefEqProofs only [ZS, Nat.reduceAdd, TermK h.toSOk i hhas]
  -- the end
  have tail : ∀ (s' : Stp) (X : List AObj), SGd s' → memsS s' = memsS s →
     ((loadA false 1 (.ptr (P.length + 1) 1 0 0) (hp P s' (R ++ X))).bind fun a31 => callK (EV C) false n_conf_Has [ints (memsS s), a31] (hp P s' (R ++ X)) fun a32 H32 E32 => (unA .not a32).bind fun a33 =>
      splitK a33
        (callK (EV C) false n_raft_stepper_pending [.ptr (P.length + 1) 1 0 0] H32 fun a34 H34 E34 =>
        (unA .not a34).bind fun a35 =>
        condK a35
         (stoK 1 (.ptr (P.length + 1) 1 0 3) (.int .i64 0) H34 fun H38 E38 =>
         stoK 1 (.ptr (P.length + 1) 1 0 4) (.int .i64 0) H38 fun H41 E41 =>
         endB false false (P.length + 2 + R.length) (.tup []) H41 (E41 ++ (E38 ++ (E34 ++ E32))))
         (endB false false (P.length + 2 + R.length) (.tup []) H34 (E34 ++ E32)))
        (endB false false (P.length + 2 + R.length) (.tup []) H32 E32)) = some (.tup [], hp P (outF s') R, []) := fun s' X h' hm => by
    simp -implicitDefEqProofs only [ZS, Nat.reduceAdd, confHasK _ _ ml]
    unfold outF
    rw [hm]
    cases h1 : hasF (memsS s) s'.n.id with
    | true =>
     simp -implicitDefEqProofs only [ZS, Nat.reduceAdd, Bool.false_and, Bool.false_eq_true, if_false]
     exact endB_n1 X rfl
    | false =>
     simp -implicitDefEqProofs only [ZS, Nat.reduceAdd, pendingK h']
     cases h2 : pendF s' with
     | true =>
      simp -implicitDefEqProofs only [ZS, Nat.reduceAdd, Bool.and_false, Bool.false_eq_true, if_false]
      exact endB_n1 X rfl
     | false =>
      simp -implicitDefEqProofs only [ZS, Nat.reduceAdd, Bool.and_self, if_true]
      exact endB_n1 X rfl
  by_cases ht : termL s.n.log i = s.n.term
  · rw [if_pos ht, show decide (termL s.n.log i = s.n.term) = true from decide_eq_true ht]
    simp -implicitDefEqProofs only [ZS, Nat.reduceAdd, ls_match h.w.n]
    -- who has it
    have inner : ∀ (m j : Nat) (c : List Int), j + m = 8 → c.length ≤ j →
      raft_stepper_counts_J10 (P.length + 2 + R.length) (hp P s R) [] (.ptr (P.length + 1) 1 0 0) (.ptr (P.length + 1) 1 0 0) (ints (memsS s)) (.int .i64 i) (.slc (P.length + 2 + R.length) 0 c.length c.length) (.agg (s.n.mtch.map i64)) (.int .i64 (j : Int)) (hp P s (R ++ [vro 1 (c.map i64)])) [] =
        some (.tup [], hp P (outF (if mostF (memsS s) (c ++ haveFrom s.n.mtch i j m) = true then { s with n := { s.n with commit := i } } else cLoop s k)) R, []) := by
     intro m
     induction m with
     | zero =>
      intro j c hj hc
      refine raft_stepper_counts_J10_of ?_
      simp -implicitDefEqProofs only [ZS, Nat.reduceAdd]
      rw [if_neg (by omega), callK_flat (frz_have c _) (by simp [goodL]) (most_ok _ _ ml (by omega)) rfl]
      rw [show c ++ haveFrom s.n.mtch i j 0 = c from List.append_nil c]
      cases hmo2 : mostF (memsS s) c with
      | true =>
        simp -implicitDefEqProofs only [condK_t, if_true]
        have t := tail { s with n := { s.n with commit := i } } [vro 1 (c.map i64)] (h.commit (by omega) hk) rfl
        simp -implicitDefEqProofs only [ZS, Nat.reduceAdd] at t ⊢
        exact t
      | false =>
        have e4 : IntKind.i64.wrap (i - 1) = s.n.commit + (k : Int) := by rw [wrap64 (by omega) (by omega)]; omega
        simp -implicitDefEqProofs only [condK_f, Bool.false_eq_true, if_false, sub_int, Option.bind_some, e4, List.append_nil]
        rw [show List.take (P.length + 2 + R.length) (hp P s (R ++ [vro 1 (c.map i64)])) = hp P s R from by rw [← hp_len P s R]; exact hp_take P s s R _]
        have hb : (List.all ([] : List Nat) (fun e => decide (P.length + 2 + R.length ≤ e)) && (AV.bel (P.length + 2 + R.length) (.ptr (P.length + 1) 1 0 0) && (AV.bel (P.length + 2 + R.length) (.ptr (P.length + 1) 1 0 0) && (AV.bel (P.length + 2 + R.length) (ints (memsS s)) && (AV.bel (P.length + 2 + R.length) (.int .i64 (s.n.commit + (k : Int))) && true))))) = true := by
         simp only [bel_good _ _ (good_ints _), AV.bel]
         simp; omega
        rw [hb]
        exact counts_J s h P R k (by omega)
     | succ m ih =>
      intro j c hj hc
      refine raft_stepper_counts_J10_of ?_
      have h8 : j < 8 := by omega
      have e3 : IntKind.i64.wrap ((j : Int) + 1) = ((j + 1 : Nat) : Int) := w64 (by omega) (by omega)
      simp -implicitDefEqProofs only [ZS, Nat.reduceAdd]
      rw [if_pos (by omega), ixV_m h.w.n.lm h8]
      simp -implicitDefEqProofs only [ZS, Nat.reduceAdd]
      unfold haveFrom
      by_cases hge : i ≤ s.n.mtch.getD j 0
      · rw [if_pos hge, if_pos hge, litIn rfl]
        rw [appK_vro (z := 1) (es := c.map i64) (ys := [i64 j]) rfl (hp_M P s R [] _) (by simp) rfl (by decide) (by decide) (by decide) (by simp; omega)]
        simp -implicitDefEqProofs only [ZS, Nat.reduceAdd, add_int, e3]
        rw [esc_good (by rfl), hp_setR, show ((R ++ [vro 1 (c.map i64)]).set R.length (vro 1 (c.map i64 ++ [i64 j]))) = R ++ [vro 1 ((c ++ [(j : Int)]).map i64)] from by simp, show c.length + [i64 (j : Int)].length = (c ++ [(j : Int)]).length from by simp]
        have := ih (j + 1) (c ++ [(j : Int)]) (by omega) (by simp; omega)
        rw [List.append_assoc, List.singleton_append] at this
        exact this
      · rw [if_neg hge, if_neg hge]
        simp -implicitDefEqProofs only [ZS, Nat.reduceAdd, add_int, e3]
        exact ih (j + 1) c (by omega) (by omega)
    have := inner 8 0 [] rfl (by simp)
    rw [List.nil_append] at this
    exact this
  · rw [if_neg ht, show decide (termL s.n.log i = s.n.term) = false from decide_eq_false ht]
    have t := tail s [] h rfl
    simp -implicitDefEqProofs only [ZS, Nat.reduceAdd, confHasK _ _ ml] at t ⊢
    exact t
end Go.Pm
namespace Go.Pm
open Go.Proofs
set_option linter.unusedVariables false
set_option linter.unusedSimpArgs false
theorem getD_set {l : List Int} {i j : Nat} {x : Int} (hi : i < l.length) : (l.set i x).getD j 0 = if i = j then x else l.getD j 0 := by
 simp only [List.getD_eq_getElem?_getD, List.getElem?_set]
 by_cases e : i = j
 · rw [if_pos e, if_pos e, if_pos hi]; rfl
 · rw [if_neg e, if_neg e]
def markF (s : Stp) : Stp := { s with n := { s.n with mtch := s.n.mtch.set s.n.id.toNat (lastS s) } }
def countsF (s : Stp) : Stp := outF (cLoop (markF s) (lastS s - s.n.commit).toNat)
theorem markF_gd {s : Stp} (h : SGd s) : SGd (markF s) := by
 have hl := h.last; have i0 := h.id0; have i1 := h.id1
 refine ⟨⟨⟨⟨h.w.n.ln, by simp [markF, h.w.n.lm]⟩, h.w.vn, h.w.en, h.w.out⟩, h.lg, h.sl⟩, h.id0, h.id1, h.nx, fun i hi => ?_, h.c0, h.c1⟩
 show 0 ≤ (s.n.mtch.set s.n.id.toNat (lastS s)).getD i 0 ∧ (s.n.mtch.set s.n.id.toNat (lastS s)).getD i 0 ≤ most
 rw [getD_set (by rw [h.w.n.lm]; omega)]
 split
 · omega
 · exact h.mt i hi
theorem countsF_gd {s : Stp} (h : SGd s) : SGd (countsF s) := by
 have c0 := h.c0; have c1 := h.c1
 exact outF_gd (cLoop_gd (markF_gd h) _ (by show s.n.commit + ((lastS s - s.n.commit).toNat : Int) ≤ lastL s.n.log; unfold lastS; omega))
theorem counts_m {s : Stp} (h : SGd s) : Meth n_raft_stepper_counts [] s (.tup []) (countsF s) := fun P R => by
 refine raft_stepper_counts_of ?_
 dsimp only
 have i0 := h.id0; have i1 := h.id1; have c0 := h.c0; have c1 := h.c1
 have hm := markF_gd h
 simp -implicitDefEqProofs only [ZS, Nat.reduceAdd, lastK h.toSOk, drawK_t, arA_int (show 0 ≤ s.n.id by omega) (show s.n.id < 8 by omega), ss_mtch h.w.n (show s.n.id.toNat < 8 by omega)]
 rw [show ({ s with n := { s.n with mtch := s.n.mtch.set s.n.id.toNat (lastS s) } } : Stp) = markF s from rfl]
 simp -implicitDefEqProofs only [ZS, Nat.reduceAdd, membersK hm.toSOk, lastK hm.toSOk]
 have := counts_J (markF s) hm P R (lastS s - s.n.commit).toNat (by show s.n.commit + ((lastS s - s.n.commit).toNat : Int) ≤ lastL s.n.log; unfold lastS; omega)
 rw [show (markF s).n.commit + ((lastS s - s.n.commit).toNat : Int) = lastS (markF s) from by show s.n.commit + ((lastS s - s.n.commit).toNat : Int) = lastS s; unfold lastS; omega] at this
 exact this
theorem countsK {s : Stp} (h : SGd s) {β : Type} {P R : List AObj} {K : Kt β} : callK (EV C) false n_raft_stepper_counts [.ptr (P.length + 1) 1 0 0] (hp P s R) K = K (.tup []) (hp P (countsF s) R) [] := (counts_m h).call0 rfl
theorem outF_out (s : Stp) : (outF s).out = s.out ∧ (outF s).num = s.num ∧ (outF s).n.log = s.n.log ∧ (outF s).n.id = s.n.id ∧ (outF s).n.term = s.n.term := by
 unfold outF; split <;> exact ⟨rfl, rfl, rfl, rfl, rfl⟩
theorem cLoop_out (s : Stp) : ∀ k, (cLoop s k).out = s.out ∧ (cLoop s k).num = s.num ∧ (cLoop s k).n.log = s.n.log ∧ (cLoop s k).n.id = s.n.id ∧ (cLoop s k).n.term = s.n.term
 | 0 => ⟨rfl, rfl, rfl, rfl, rfl⟩
 | k + 1 => by
  unfold cLoop; split
  · split
    · exact ⟨rfl, rfl, rfl, rfl, rfl⟩
    · exact cLoop_out s k
  · exact ⟨rfl, rfl, rfl, rfl, rfl⟩
theorem countsF_out (s : Stp) : (countsF s).out = s.out ∧ (countsF s).num = s.num ∧ (countsF s).n.log = s.n.log ∧ (countsF s).n.id = s.n.id ∧ (countsF s).n.term = s.n.term := by
 have h1 := outF_out (cLoop (markF s) (lastS s - s.n.commit).toNat)
 have h2 := cLoop_out (markF s) (lastS s - s.n.commit).toNat
 unfold countsF
 exact ⟨h1.1.trans h2.1, h1.2.1.trans h2.2.1, h1.2.2.1.trans h2.2.2.1, h1.2.2.2.1.trans h2.2.2.2.1, h1.2.2.2.2.trans h2.2.2.2.2⟩
theorem chkEs_app : ∀ {l : List Ent} {t : Int} {e : Ent}, chkEs t l = true → entOk e (((l.getLast?).map (·.term)).getD t) = true → chkEs t (l ++ [e]) = true
 | [], t, e, _, h => by simp only [List.nil_append, chkEs, Bool.and_true]; simpa using h
 | x :: l, t, e, hc, h => by
  simp only [chkEs, Bool.and_eq_true] at hc
  simp only [List.cons_append, chkEs, Bool.and_eq_true]
  refine ⟨hc.1, chkEs_app hc.2 ?_⟩
  cases l with
  | nil => simpa using h
  | cons y l =>
   rw [List.getLast?_cons_cons, List.getLast?_eq_some_getLast (show y :: l ≠ [] by simp)] at h
   rw [List.getLast?_eq_some_getLast (show y :: l ≠ [] by simp)]
   exact h
theorem termL_last (g : Lg) : termL g (lastL g) = ((g.es.getLast?).map (·.term)).getD g.term := by
 unfold termL lastL
 cases hl : g.es with
 | nil => simp
 | cons x l =>
  rw [if_neg (by simp; omega)]
  have e : (g.index + (((x :: l).length : Nat) : Int) - g.index - 1).toNat = l.length := by simp; omega
  rw [e, List.getLast?_eq_getElem?]
  simp only [List.length_cons, Nat.add_sub_cancel]
  cases hx : (x :: l)[l.length]? with
  | none => simp at hx
  | some y => rfl
/-- an entry that may stand behind the log -/
def EOk (n : Nde) (kind : Int) (data : List UInt8) : Prop := termL n.log (lastL n.log) ≤ n.term ∧ 1 ≤ n.term ∧ n.term ≤ most ∧ 0 ≤ kind ∧ kind ≤ 2 ∧ (kind = 2 → mayL (ofB data) = true) ∧ data.length < 2^40 ∧ n.log.es.length + 1 < 2^40
theorem addF_sound {s : Stp} (h : SOk s) {kind : Int} {data : List UInt8} (he : EOk s.n kind data) : SOk (addF s kind data) := by
 obtain ⟨e1, e2, e3, e4, e5, e6, e7, e8⟩ := he
 have hl := h.last
 have hmo : most = 1152921504606846976 := rfl
 unfold addF
 by_cases hm : most ≤ lastS s
 · rw [if_pos hm]; exact h
 · rw [if_neg hm]
   have hs := h.sl
   simp only [soundL, Bool.and_eq_true, decide_eq_true_eq] at hs
   refine ⟨⟨⟨h.w.n.ln, h.w.n.lm⟩, h.w.vn, (fun h => by cases h), h.w.out⟩, ⟨h.lg.m, by simp; omega, fun e he => ?_⟩, ?_⟩
   · simp only [List.mem_append, List.mem_singleton] at he
     rcases he with he | rfl
     · exact h.lg.d e he
     · exact e7
   · simp only [soundL, Bool.and_eq_true, decide_eq_true_eq]
     refine ⟨⟨hs.1.1, hs.1.2.1, hs.1.2.2.1, hs.1.2.2.2.1, ?_⟩, hs.2.1, chkEs_app hs.2.2 ?_⟩
     · have : lastS s = s.n.log.index + s.n.log.es.length := rfl
       simp; omega
     · rw [← termL_last]
       simp only [entOk, Bool.and_eq_true, Bool.or_eq_true, decide_eq_true_eq]
       refine ⟨⟨e1, e2, e3, e4, e5⟩, ?_⟩
       by_cases hk : kind = 2
       · exact .inr (e6 hk)
       · exact .inl hk
theorem addF_last {s : Stp} {kind : Int} {data : List UInt8} : lastS s ≤ lastS (addF s kind data) ∧ (addF s kind data).n.log.index = s.n.log.index := by
 unfold addF; split
 · exact ⟨Int.le_refl _, rfl⟩
 · refine ⟨?_, rfl⟩
   simp only [lastS, lastL, List.length_append, List.length_singleton]; omega
theorem addF_n (s : Stp) (kind : Int) (data : List UInt8) : (addF s kind data).n.id = s.n.id ∧ (addF s kind data).n.next = s.n.next ∧ (addF s kind data).n.mtch = s.n.mtch ∧ (addF s kind data).n.commit = s.n.commit ∧ (addF s kind data).out = s.out ∧ (addF s kind data).num = s.num ∧ (addF s kind data).n.term = s.n.term := by
 unfold addF; split <;> exact ⟨rfl, rfl, rfl, rfl, rfl, rfl, rfl⟩
theorem addF_gd {s : Stp} (h : SGd s) {kind : Int} {data : List UInt8} (he : EOk s.n kind data) : SGd (addF s kind data) := by
 have hs := addF_sound h.toSOk he
 have h1 := addF_n s kind data
 have h2 := @addF_last s kind data
 refine ⟨hs, by rw [h1.1]; exact h.id0, by rw [h1.1]; exact h.id1, by rw [h1.2.1]; exact h.nx, by rw [h1.2.2.1]; exact h.mt, by rw [h1.2.2.2.1, h2.2]; exact h.c0, ?_⟩
 rw [h1.2.2.2.1]
 have := h.c1
 have h3 := h2.1
 unfold lastS at h3
 omega
theorem addK {s : Stp} (h : SOk s) (kind : Int) (data : List UInt8) (hd : data.length ≤ 2^40) {β : Type} {P R : List AObj} {K : Kt β} : callK (EV C) false n_raft_stepper_add [.ptr (P.length + 1) 1 0 0, .int .i64 kind, bys data] (hp P s R) K = K (.tup []) (hp P (addF s kind data) R) [] := (add_m h kind data hd).call0 (by simp [goodL, AV.good])
theorem addK0 {s : Stp} (h : SOk s) (kind : Int) {β : Type} {P R : List AObj} {K : Kt β} : callK (EV C) false n_raft_stepper_add [.ptr (P.length + 1) 1 0 0, .int .i64 kind, .nils] (hp P s R) K = K (.tup []) (hp P (addF s kind []) R) [] := (add_m h kind [] (by simp)).call rfl rfl
def allF (s : Stp) : Stp := othersF s (memsS s) (bringM s.n)
def numF (s : Stp) : Stp := { s with num := lastS s }
def proposeF (s : Stp) (kind : Int) (data : List UInt8) : Stp := allF (countsF (numF (addF s kind data)))
theorem numF_gd {s : Stp} (h : SGd s) : SGd (numF s) := ⟨⟨⟨h.w.n, h.w.vn, h.w.en, h.w.out⟩, h.lg, h.sl⟩, h.id0, h.id1, h.nx, h.mt, h.c0, h.c1⟩
theorem propose_m {s : Stp} (h : SGd s) (kind : Int) (data : List UInt8) (he : EOk s.n kind data) (ho : s.out.length < 800000) : Meth n_raft_stepper_propose [.int .i64 kind, bys data] s (.tup []) (proposeF s kind data) := fun P R => by
 refine raft_stepper_propose_of ?_
 dsimp only
 have ha := addF_gd h he
 have hn := numF_gd ha
 have hc := countsF_gd hn
 rw [addK h.toSOk kind data (by have := he.2.2.2.2.2.2.1; omega)]
 simp -implicitDefEqProofs only [ZS, Nat.reduceAdd, lastK ha.toSOk, ss_num ha.w.n]
 rw [show ({ (addF s kind data) with num := lastS (addF s kind data) } : Stp) = numF (addF s kind data) from rfl, countsK hn, othersBring_m hc (by rw [(countsF_out _).1]; show (addF s kind data).out.length < _; rw [(addF_n s kind data).2.2.2.2.1]; omega)]
 exact endB_n0 rfl
end Go.Pm
namespace Go.Pm
open Go.Proofs
set_option linter.unusedVariables false
set_option linter.unusedSimpArgs false
def nextS (s : Stp) : Int := if most < lastS s + 1 then most else lastS s + 1
def resetF (s : Stp) : Stp := { s with n := { s.n with role := 2, leader := s.n.id, ticks := 0, votes := [], next := List.replicate 8 (nextS s), mtch := List.replicate 8 0 }, vn := true }
def leadsF (s : Stp) : Stp := allF (countsF (addF (resetF s) 0 []))
def fillFrom (x : Int) (i : Nat) : Nat → List Int → List Int
 | 0, l => l
 | m + 1, l => fillFrom x (i + 1) m (l.set i x)
theorem fill_8 (x : Int) {l : List Int} (h : l.length = 8) : fillFrom x 0 8 l = List.replicate 8 x := by
 match l, h with
 | [a, b, c, d, e, f, g, k], _ => rfl
theorem resetF_gd {s : Stp} (h : SGd s) : SGd (resetF s) := by
 have hl := h.last
 have hmo : most = 1152921504606846976 := rfl
 refine ⟨⟨⟨⟨rfl, rfl⟩, fun _ => rfl, h.w.en, h.w.out⟩, h.lg, h.sl⟩, h.id0, h.id1, fun i hi => ?_, fun i hi => ?_, h.c0, h.c1⟩
 · show 0 ≤ (List.replicate 8 (nextS s)).getD i 0 ∧ (List.replicate 8 (nextS s)).getD i 0 ≤ most
   rw [List.getD_eq_getElem?_getD, List.getElem?_replicate, if_pos hi]
   show 0 ≤ nextS s ∧ nextS s ≤ most
   unfold nextS; split <;> omega
 · show 0 ≤ (List.replicate 8 (0 : Int)).getD i 0 ∧ (List.replicate 8 (0 : Int)).getD i 0 ≤ most
   rw [List.getD_eq_getElem?_getD, List.getElem?_replicate, if_pos hi]
   exact ⟨Int.le_refl _, by rw [hmo]; decide⟩
theorem leads_J3 (n : Nde) (log : Lg) (x : Int) (P R : List AObj) (hx : ∀ s : Stp, s.n.log = log → (if most < lastS s + 1 then most else lastS s + 1) = x) : ∀ (m i : Nat) (s : Stp), i + m = 8 → SOk s → s.n.log = log → s.out.length < 800000 →
  SGd { s with n := { s.n with next := fillFrom x i m s.n.next, mtch := fillFrom 0 i m s.n.mtch } } → EOk s.n 0 [] →
  raft_stepper_leads_J3 (P.length + 2 + R.length) (.ptr (P.length + 1) 1 0 0) (.ptr (P.length + 1) 1 0 0) (.int .i64 (i : Int)) (hp P s R) [] = some (.tup [], hp P (allF (countsF (addF { s with n := { s.n with next := fillFrom x i m s.n.next, mtch := fillFrom 0 i m s.n.mtch } } 0 []))) R, [])
 | 0, i, s, hi, h, hlg, ho, hg, he => by
  refine raft_stepper_leads_J3_of ?_
  simp -implicitDefEqProofs only [ZS, Nat.reduceAdd]
  have hg' : SGd s := hg
  rw [if_neg (by omega), addK0 h, countsK (addF_gd hg' he), othersBring_m (countsF_gd (addF_gd hg' he)) (by rw [(countsF_out _).1, (addF_n s 0 []).2.2.2.2.1]; omega)]
  exact endB_n0 rfl
 | m + 1, i, s, hi, h, hlg, ho, hg, he => by
  refine raft_stepper_leads_J3_of ?_
  have h8 : i < 8 := by omega
  have hl := h.last
  have hmo : most = 1152921504606846976 := rfl
  have e3 : IntKind.i64.wrap ((i : Int) + 1) = ((i + 1 : Nat) : Int) := w64 (by omega) (by omega)
  have e4 : IntKind.i64.wrap (lastS s + 1) = lastS s + 1 := wrap64 (by omega) (by omega)
  have hxs := hx s hlg
  rw [hmo] at hxs
  have ha : arA 8 1 (.ptr (P.length + 1) 1 0 11) (.int .i64 (i : Int)) = some (.ptr (P.length + 1) 1 0 (11 + i)) := arA_ptr h8
  have hb : arA 8 1 (.ptr (P.length + 1) 1 0 19) (.int .i64 (i : Int)) = some (.ptr (P.length + 1) 1 0 (19 + i)) := arA_ptr h8
  simp -implicitDefEqProofs only [ZS, Nat.reduceAdd]
  rw [if_pos (by omega)]
  simp -implicitDefEqProofs only [ZS, Nat.reduceAdd, lastK h, add_int, e4, minA, hxs, ha, ss_next h.w.n h8]
  have w1 : ({ s with n := { s.n with next := s.n.next.set i x } } : Stp).n.wf := ⟨by simp [h.w.n.ln], h.w.n.lm⟩
  simp -implicitDefEqProofs only [ZS, Nat.reduceAdd, hb, ss_mtch w1 h8, add_int, e3]
  exact leads_J3 n log x P R hx m (i + 1) { s with n := { s.n with next := s.n.next.set i x, mtch := s.n.mtch.set i 0 } } (by omega) ⟨⟨⟨by simp [h.w.n.ln], by simp [h.w.n.lm]⟩, h.w.vn, h.w.en, h.w.out⟩, h.lg, h.sl⟩ hlg ho hg he
theorem leads_m {s : Stp} (h : SGd s) (he : EOk s.n 0 []) (ho : s.out.length < 800000) : Meth n_raft_stepper_leads [] s (.tup []) (leadsF s) := fun P R => by
 refine raft_stepper_leads_of ?_
 dsimp only
 simp -implicitDefEqProofs only [ZS, Nat.reduceAdd]
 have w1 : ({ s with n := { s.n with role := 2, leader := s.n.id } } : Stp).n.wf := ⟨h.w.n.ln, h.w.n.lm⟩
 rw [ss_ticks w1]
 simp -implicitDefEqProofs only [ZS, Nat.reduceAdd]
 have hr := resetF_gd h
 have hr' : SGd { s with n := { s.n with role := 2, leader := s.n.id, ticks := 0, votes := [], next := fillFrom (nextS s) 0 8 s.n.next, mtch := fillFrom 0 0 8 s.n.mtch }, vn := true } := by
  rw [fill_8 _ h.w.n.ln, fill_8 _ h.w.n.lm]; exact hr
 have := leads_J3 s.n s.n.log (nextS s) P R (fun s' hs => by unfold nextS lastS; rw [hs]) 8 0 { s with n := { s.n with role := 2, leader := s.n.id, ticks := 0, votes := [] }, vn := true } rfl ⟨⟨⟨h.w.n.ln, h.w.n.lm⟩, fun _ => rfl, h.w.en, h.w.out⟩, h.lg, h.sl⟩ rfl ho hr' he
 refine this.trans ?_
 dsimp only
 rw [fill_8 _ h.w.n.ln, fill_8 _ h.w.n.lm]
 rfl
theorem leadsK {s : Stp} (h : SGd s) (he : EOk s.n 0 []) (ho : s.out.length < 800000) {β : Type} {P R : List AObj} {K : Kt β} : callK (EV C) false n_raft_stepper_leads [.ptr (P.length + 1) 1 0 0] (hp P s R) K = K (.tup []) (hp P (leadsF s) R) [] := (leads_m h he ho).call0 rfl
section
variable {P R X : List AObj} {s : Stp} {v u x y : AV} {a b : AObj}
theorem new_1 {β : Type} {K : Kt β} (h0 : v.cells = [v]) (h1 : v.one = true) : newK v (hp P s R) K = K (.ptr (P.length + 2 + R.length) 1 0 0) (hp P s (R ++ [.row 1 [v]])) [] := by
 have : newA v (hp P s R) = some (.ptr (P.length + 2 + R.length) 1 0 0, hp P s (R ++ [.row 1 [v]]), []) := by
  unfold newA
  rw [h0, if_pos ⟨by simp, by simp [h1]⟩, hp_app, hp_len]; rfl
 unfold newK; rw [this]; rfl
theorem ld_11 {H : List AObj} {l z : Nat} (h0 : v.cells = [v]) (h : H[l]? = some (.row z [v])) : loadA false 1 (.ptr l 1 0 0) H = some v := by
 unfold loadA
 simp only [h, List.length_singleton, if_true, List.getElem?_cons_zero, Option.bind_some, h0, ldv, Bool.false_eq_true, if_false, List.drop_zero]
theorem l1_ptr {l : Nat} : loadA false 1 (.ptr (P.length + 2 + R.length) 1 0 0) (hp P s (R ++ .row 1 [.ptr l 1 0 0] :: X)) = some (.ptr l 1 0 0) := ld_11 rfl (hp_M P s R X _)
theorem l2_int {k : Int} : loadA false 1 (.ptr (P.length + 2 + (R ++ [a]).length) 1 0 0) (hp P s (R ++ a :: .row 1 [.int .i64 k] :: X)) = some (.int .i64 k) :=
 ld_11 rfl (by rw [show R ++ a :: .row 1 [.int .i64 k] :: X = (R ++ [a]) ++ .row 1 [.int .i64 k] :: X from by simp]; exact hp_M P s (R ++ [a]) X _)
theorem l3_int {k : Int} : loadA false 1 (.ptr (P.length + 2 + (R ++ [a, b]).length) 1 0 0) (hp P s (R ++ a :: b :: .row 1 [.int .i64 k] :: X)) = some (.int .i64 k) :=
 ld_11 rfl (by rw [show R ++ a :: b :: .row 1 [.int .i64 k] :: X = (R ++ [a, b]) ++ .row 1 [.int .i64 k] :: X from by simp]; exact hp_M P s (R ++ [a, b]) X _)
variable {β : Type} {K : List AObj → List Nat → Option β}
theorem sto_11 {H : List AObj} {l z : Nat} {k k' : Int} (h : H[l]? = some (.row z [.int .i64 k])) : stoK 1 (.ptr l 1 0 0) (.int .i64 k') H K = K (H.set l (.row z [.int .i64 k'])) [] := by
 unfold stoK storeA
 simp only [h, List.length_singleton, AV.cells, AV.one, List.all_cons, List.all_nil, Bool.and_self, and_self, if_true, List.getElem?_cons_zero, Option.bind_some, setC, set1, Option.map_some, List.set_cons_zero]
 rfl
theorem st2_int {k k' : Int} : stoK 1 (.ptr (P.length + 2 + (R ++ [a]).length) 1 0 0) (.int .i64 k') (hp P s (R ++ a :: .row 1 [.int .i64 k] :: X)) K = K (hp P s (R ++ a :: .row 1 [.int .i64 k'] :: X)) [] := by
 rw [sto_11 (z := 1) (k := k) (by rw [show R ++ a :: .row 1 [.int .i64 k] :: X = (R ++ [a]) ++ .row 1 [.int .i64 k] :: X from by simp]; exact hp_M P s (R ++ [a]) X _), hp_setR]
 simp
theorem st3_int {a' b' : AObj} {k k' : Int} : stoK 1 (.ptr (P.length + 2 + (R ++ [a', b']).length) 1 0 0) (.int .i64 k') (hp P s (R ++ a :: b :: .row 1 [.int .i64 k] :: X)) K = K (hp P s (R ++ a :: b :: .row 1 [.int .i64 k'] :: X)) [] := by
 rw [show (R ++ [a', b']).length = (R ++ [a, b]).length from by simp]
 rw [sto_11 (z := 1) (k := k) (by rw [show R ++ a :: b :: .row 1 [.int .i64 k] :: X = (R ++ [a, b]) ++ .row 1 [.int .i64 k] :: X from by simp]; exact hp_M P s (R ++ [a, b]) X _), hp_setR]
 simp
end
def askM (n : Nde) : Msg := { msg0 1 with index := lastL n.log, lterm := termL n.log (lastL n.log) }
theorem askM_wf (n : Nde) : (askM n).wf := tail0_wf rfl
def candF (s : Stp) (d : Int) : Stp := { s with n := { s.n with term := s.n.term + 1, role := 1, voted := s.n.id, votes := [s.n.id], leader := 0, ticks := 0, timeout := toF d }, vn := false }
def standsF (s : Stp) (d : Int) : Stp := let c := candF s d; if mostF (memsS c) c.n.votes = true then leadsF c else othersF c (memsS c) (fun _ => askM c.n)
theorem candF_gd {s : Stp} (h : SGd s) (d : Int) : SGd (candF s d) := ⟨⟨⟨⟨h.w.n.ln, h.w.n.lm⟩, fun h => (by cases h), h.w.en, h.w.out⟩, h.lg, h.sl⟩, h.id0, h.id1, h.nx, h.mt, h.c0, h.c1⟩
theorem stands_m {s : Stp} (h : SGd s) (d : Int) (ht : termL s.n.log (lastL s.n.log) ≤ s.n.term) (h0 : 0 ≤ s.n.term) (h1 : s.n.term < most) (hl : s.n.log.es.length + 1 < 2^40) (ho : s.out.length < 800000) : Meth n_raft_stepper_stands [.int .i64 d] s (.tup []) (standsF s d) := fun P R => by
 refine raft_stepper_stands_of ?_
 dsimp only
 have hmo : most = 1152921504606846976 := rfl
 have e1 : IntKind.i64.wrap (s.n.term + 1) = s.n.term + 1 := wrap64 (by omega) (by omega)
 have hlit : ∀ (x : Int) (H : List AObj), litD 1 1 (.int .i64 0) [(0, .int .i64 x)] H = some (ints [x]) := fun x H => rfl
 rw [new_1 rfl rfl]
 have w1 : ({ s with n := { s.n with term := s.n.term + 1, role := 1, voted := s.n.id, votes := [s.n.id], leader := 0 }, vn := false } : Stp).n.wf := ⟨h.w.n.ln, h.w.n.lm⟩
 have w2 : ({ s with n := { s.n with term := s.n.term + 1, role := 1, voted := s.n.id, votes := [s.n.id], leader := 0, ticks := 0 }, vn := false } : Stp).n.wf := ⟨h.w.n.ln, h.w.n.lm⟩
 simp -implicitDefEqProofs only [ZS, Nat.reduceAdd, l1_ptr, add_int, e1, hlit, callD_ok (show goodL [AV.int .i64 d] = true from rfl) (timeout_ok d), drawK_t, ss_ticks w1, ss_timeout w2]
 have hc := candF_gd h d
 obtain ⟨c, hcc⟩ : ∃ c, c = candF s d := ⟨_, rfl⟩
 rw [show ({ s with n := { s.n with term := s.n.term + 1, role := 1, voted := s.n.id, votes := [s.n.id], leader := 0, ticks := 0, timeout := toF d }, vn := false } : Stp) = c from hcc.symm]
 unfold standsF
 rw [← hcc] at hc ⊢
 dsimp only
 have hv : c.vav = ints c.n.votes := by rw [hcc]; rfl
 have hvl : c.n.votes.length = 1 := by rw [hcc]; rfl
 have hco : c.out = s.out := by rw [hcc]; rfl
 have hcn : c.n.log = s.n.log ∧ c.n.term = s.n.term + 1 := by rw [hcc]; exact ⟨rfl, rfl⟩
 simp -implicitDefEqProofs only [ZS, Nat.reduceAdd, membersK hc.toSOk, drawK_t, hv, callD_ok (show goodL [ints (memsS c), ints c.n.votes] = true from by simp [goodL]) (most_ok _ _ hc.ml (by omega))]
 cases hm : mostF (memsS c) c.n.votes with
 | true =>
  have he : EOk c.n 0 [] := by
   refine ⟨by rw [hcn.1, hcn.2]; omega, by rw [hcn.2]; omega, by rw [hcn.2]; omega, by decide, by decide, fun h => absurd h (by decide), by decide, by rw [hcn.1]; exact hl⟩
  simp -implicitDefEqProofs only [ZS, Nat.reduceAdd, l1_ptr, if_true, leadsK hc he (show c.out.length < 800000 by rw [hco]; exact ho)]
  exact endB_n1 [_] rfl
 | false =>
  simp -implicitDefEqProofs only [ZS, Nat.reduceAdd, LastK hc.toSOk, Bool.false_eq_true, if_false]
  rw [new_1 rfl rfl]
  simp -implicitDefEqProofs only [ZS, Nat.reduceAdd]
  rw [new_1 rfl rfl]
  simp -implicitDefEqProofs only [ZS, Nat.reduceAdd, st2_int, st3_int, l1_ptr]
  obtain ⟨R3, hR3⟩ : ∃ R3, R3 = R ++ [.row 1 [.ptr (P.length + 1) 1 0 0], .row 1 [.int .i64 (lastS c)], .row 1 [.int .i64 (termL c.n.log (lastS c))]] := ⟨_, rfl⟩
  rw [show R ++ .row 1 [.ptr (P.length + 1) 1 0 0] :: .row 1 [.int .i64 (lastS c)] :: [.row 1 [.int .i64 (termL c.n.log (lastS c))]] = R3 from by rw [hR3]]
  have e : callA (EV C) false n_raft_stepper_others [.ptr (P.length + 1) 1 0 0, .clo n_raft_stepper_stands_1 [] [.ptr (P.length + 2 + R.length) 1 0 0, .ptr (P.length + 2 + (R ++ [AObj.row 1 [.ptr (P.length + 1) 1 0 0]]).length) 1 0 0, .ptr (P.length + 2 + (R ++ [AObj.row 1 [.ptr (P.length + 1) 1 0 0], .row 1 [.int .i64 0]]).length) 1 0 0]] (hp P c R3) = some (.tup [], hp P (othersF c (memsS c) (fun _ => askM c.n)) R3, []) := by
   unfold callA
   rw [if_neg (by decide)]
   refine (congrArg (fun x => Option.bind x _) (show frzL (hp P c R3) _ = some _ from rfl)).trans ?_
   rw [Option.bind_some, if_neg (by simp [belL, AV.bel])]
   refine others_ok hc.toSOk _ (fun _ => askM c.n) P R3 (fun _ => askM_wf _) (by rw [hco]; omega) fun s' id hn hw hol h1 h7 K => ?_
   unfold valK
   dsimp only
   rw [if_pos (by kernel_rfl)]
   have hs1 : EV C n_raft_stepper_stands_1 [.int .i64 id, .ptr (P.length + 2 + R.length) 1 0 0, .ptr (P.length + 2 + (R ++ [AObj.row 1 [.ptr (P.length + 1) 1 0 0]]).length) 1 0 0, .ptr (P.length + 2 + (R ++ [AObj.row 1 [.ptr (P.length + 1) 1 0 0], .row 1 [.int .i64 0]]).length) 1 0 0] (hp P s' R3) = some (.tup [], hp P (sendF s' id (askM c.n)) R3, []) := by
    refine raft_stepper_stands_1_of ?_
    dsimp only
    rw [hR3]
    have g2 : loadA false 1 (.ptr (P.length + 2 + (R ++ [AObj.row 1 [.ptr (P.length + 1) 1 0 0]]).length) 1 0 0) (hp P s' (R ++ [.row 1 [.ptr (P.length + 1) 1 0 0], .row 1 [.int .i64 (lastS c)], .row 1 [.int .i64 (termL c.n.log (lastS c))]])) = some (.int .i64 (lastS c)) := l2_int
    have g3 : loadA false 1 (.ptr (P.length + 2 + (R ++ [AObj.row 1 [.ptr (P.length + 1) 1 0 0], .row 1 [.int .i64 0]]).length) 1 0 0) (hp P s' (R ++ [.row 1 [.ptr (P.length + 1) 1 0 0], .row 1 [.int .i64 (lastS c)], .row 1 [.int .i64 (termL c.n.log (lastS c))]])) = some (.int .i64 (termL c.n.log (lastS c))) := by
     rw [show (R ++ [AObj.row 1 [.ptr (P.length + 1) 1 0 0], .row 1 [.int .i64 0]]).length = (R ++ [AObj.row 1 [.ptr (P.length + 1) 1 0 0], .row 1 [.int .i64 (lastS c)]]).length from by simp]
     exact l3_int
    rw [l1_ptr, Option.bind_some, g2, Option.bind_some, g3, Option.bind_some]
    refine Eq.trans (b := _) (congrArg (fun x => Option.bind x _) (show fillB _ _ = some [.int .i64 1, .int .i64 0, .int .i64 0, .int .i64 0, .int .i64 (lastS c), .int .i64 (termL c.n.log (lastS c)), .int .i64 0, .bool false, .nils, .nils, .int .i64 0, .nils, .int .i64 0, .nils, .nils, .nils, .nils] from rfl)) ?_
    rw [Option.bind_some, sendK hw (askM_wf c.n) id hol (fun H => rfl) rfl]
    simp -implicitDefEqProofs only [hp_len, List.append_nil]
    have := endB_n0 (P := P) (R := R ++ [.row 1 [.ptr (P.length + 1) 1 0 0], .row 1 [.int .i64 (lastS c)], .row 1 [.int .i64 (termL c.n.log (lastS c))]]) (s' := sendF s' id (askM c.n)) (v := .tup []) rfl
    exact this
   have hs2 : callA (EV C) false n_raft_stepper_stands_1 [.int .i64 id, .ptr (P.length + 2 + R.length) 1 0 0, .ptr (P.length + 2 + (R ++ [AObj.row 1 [.ptr (P.length + 1) 1 0 0]]).length) 1 0 0, .ptr (P.length + 2 + (R ++ [AObj.row 1 [.ptr (P.length + 1) 1 0 0], .row 1 [.int .i64 0]]).length) 1 0 0] (hp P s' R3) = some (.tup [], hp P (sendF s' id (askM c.n)) R3, []) := by
    unfold callA
    rw [if_neg (by decide)]
    refine (congrArg (fun x => Option.bind x _) (show frzL (hp P s' R3) _ = some _ from rfl)).trans ?_
    rw [Option.bind_some, if_neg (by simp [belL, AV.bel])]
    exact hs1
   unfold callK
   rw [show ([] ++ [AV.int .i64 id] ++ [AV.ptr (P.length + 2 + R.length) 1 0 0, .ptr (P.length + 2 + (R ++ [AObj.row 1 [.ptr (P.length + 1) 1 0 0]]).length) 1 0 0, .ptr (P.length + 2 + (R ++ [AObj.row 1 [.ptr (P.length + 1) 1 0 0], .row 1 [.int .i64 0]]).length) 1 0 0]) = [AV.int .i64 id, .ptr (P.length + 2 + R.length) 1 0 0, .ptr (P.length + 2 + (R ++ [AObj.row 1 [.ptr (P.length + 1) 1 0 0]]).length) 1 0 0, .ptr (P.length + 2 + (R ++ [AObj.row 1 [.ptr (P.length + 1) 1 0 0], .row 1 [.int .i64 0]]).length) 1 0 0] from rfl, hs2]
   rfl
  unfold callK
  rw [e, Option.bind_some, hR3]
  exact endB_n1 _ rfl
theorem standsK {s : Stp} (h : SGd s) (d : Int) (ht : termL s.n.log (lastL s.n.log) ≤ s.n.term) (h0 : 0 ≤ s.n.term) (h1 : s.n.term < most) (hl : s.n.log.es.length + 1 < 2^40) (ho : s.out.length < 800000) {β : Type} {P R : List AObj} {K : Kt β} : callK (EV C) false n_raft_stepper_stands [.ptr (P.length + 1) 1 0 0, .int .i64 d] (hp P s R) K = K (.tup []) (hp P (standsF s d) R) [] := (stands_m h d ht h0 h1 hl ho).call0 rfl
end Go.Pm
namespace Go.Pm
open Go.Proofs
set_option linter.unusedVariables false
set_option linter.unusedSimpArgs false
/-- a node ahead of a step -/
structure SFu (s : Stp) : Prop extends SGd s where
 t0 : termL s.n.log (lastL s.n.log) ≤ s.n.term
 t00 : 0 ≤ s.n.term
 t1 : s.n.term ≤ most
 k0 : 0 ≤ s.n.ticks
 k1 : s.n.ticks ≤ most
 vl : s.n.votes.length < 2^39
 el : s.n.log.es.length + 1 < 2^39
 tr : 0 < s.n.term ∨ s.n.role = 0
def ticksF (s : Stp) : Stp := { s with n := { s.n with ticks := if most < s.n.ticks + 1 then most else s.n.ticks + 1 } }
def zeroF (s : Stp) : Stp := { s with n := { s.n with ticks := 0 } }
def tickF (s : Stp) (d : Int) : Stp :=
 let t := ticksF s
 if t.n.role = 2 then (if 2 ≤ t.n.ticks then allF (zeroF t) else t)
 else if t.n.timeout ≤ t.n.ticks then (if hasF (memsS t) t.n.id = true then (if t.n.term < most then standsF t d else t) else t) else t
theorem SGd.ticks {s : Stp} (h : SGd s) (x : Int) : SGd { s with n := { s.n with ticks := x } } := ⟨⟨⟨⟨h.w.n.ln, h.w.n.lm⟩, h.w.vn, h.w.en, h.w.out⟩, h.lg, h.sl⟩, h.id0, h.id1, h.nx, h.mt, h.c0, h.c1⟩
theorem tick_m {s : Stp} (h : SFu s) (d : Int) (ho : s.out.length < 800000) : Meth n_raft_stepper_tick [.int .i64 d] s (.tup []) (tickF s d) := fun P R => by
 refine raft_stepper_tick_of ?_
 dsimp only
 have hmo : most = 1152921504606846976 := rfl
 have k0 := h.k0; have k1 := h.k1
 have e1 : IntKind.i64.wrap (s.n.ticks + 1) = s.n.ticks + 1 := wrap64 (by omega) (by omega)
 have hg := h.toSGd.ticks (if most < s.n.ticks + 1 then most else s.n.ticks + 1)
 obtain ⟨t, ht⟩ : ∃ t, t = ticksF s := ⟨_, rfl⟩
 have hg : SGd t := by rw [ht]; exact hg
 have hto : t.out = s.out ∧ t.n.log = s.n.log ∧ t.n.term = s.n.term := by rw [ht]; exact ⟨rfl, rfl, rfl⟩
 simp -implicitDefEqProofs only [ZS, Nat.reduceAdd, ls_ticks h.w.n, add_int, e1, minA, ss_ticks h.w.n]
 rw [show ({ s with n := { s.n with ticks := if 1152921504606846976 < s.n.ticks + 1 then 1152921504606846976 else s.n.ticks + 1 } } : Stp) = t from ht.symm]
 unfold tickF
 rw [← ht]
 dsimp only
 have ml := hg.ml
 rw [show s.n.role = t.n.role from by rw [ht]; rfl, show s.n.id = t.n.id from by rw [ht]; rfl]
 by_cases h2 : t.n.role = 2
 · rw [if_pos h2]
   simp -implicitDefEqProofs only [ZS, Nat.reduceAdd, ls_ticks hg.w.n, h2, if_true]
   by_cases hb : 2 ≤ t.n.ticks
   · rw [if_pos hb, if_pos hb]
     simp -implicitDefEqProofs only [ZS, Nat.reduceAdd, ss_ticks hg.w.n]
     rw [show ({ t with n := { t.n with ticks := 0 } } : Stp) = zeroF t from rfl, othersBring_m (show SGd (zeroF t) from hg.ticks 0) (by show t.out.length < _; rw [hto.1]; omega)]
     exact endB_n0 rfl
   · rw [if_neg hb, if_neg hb]
     exact endB_n0 rfl
 · rw [if_neg h2]
   simp -implicitDefEqProofs only [ZS, Nat.reduceAdd, ls_ticks hg.w.n, ls_timeout hg.w.n, h2, if_false]
   by_cases hb : t.n.timeout ≤ t.n.ticks
   · rw [if_pos hb, if_pos hb]
     simp -implicitDefEqProofs only [ZS, Nat.reduceAdd, membersK hg.toSOk, drawK_t, callD_ok (show goodL [ints (memsS t), AV.int .i64 t.n.id] = true from by simp [goodL, AV.good]) (confHas_ok _ _ ml)]
     cases hh : hasF (memsS t) t.n.id with
     | false =>
      simp -implicitDefEqProofs only [ZS, Nat.reduceAdd, Bool.false_eq_true, if_false]
      exact endB_n0 rfl
     | true =>
      simp -implicitDefEqProofs only [ZS, Nat.reduceAdd, if_true]
      by_cases htm : t.n.term < most
      · rw [if_pos htm, show ∀ a b : Option R3, (if t.n.term < 1152921504606846976 then a else b) = a from fun a b => if_pos htm, standsK hg d (by rw [hto.2.1, hto.2.2]; exact h.t0) (by rw [hto.2.2]; exact h.t00) htm (by rw [hto.2.1]; have := h.el; omega) (by rw [hto.1]; exact ho)]
        exact endB_n0 rfl
      · rw [if_neg htm, show ∀ a b : Option R3, (if t.n.term < 1152921504606846976 then a else b) = b from fun a b => if_neg htm]
        exact endB_n0 rfl
   · rw [if_neg hb, if_neg hb]
     exact endB_n0 rfl
theorem tickK {s : Stp} (h : SFu s) (d : Int) (ho : s.out.length < 800000) {β : Type} {P R : List AObj} {K : Kt β} : callK (EV C) false n_raft_stepper_tick [.ptr (P.length + 1) 1 0 0, .int .i64 d] (hp P s R) K = K (.tup []) (hp P (tickF s d) R) [] := (tick_m h d ho).call0 rfl
def followF (s : Stp) (frm : Int) : Stp := { s with n := { s.n with role := 0, leader := frm, votes := [], ticks := 0 }, vn := true }
theorem follows_m {s : Stp} (w : s.wf) (frm : Int) : Meth n_raft_stepper_follows [.int .i64 frm] s (.tup []) (followF s frm) := fun P R => by
 refine raft_stepper_follows_of ?_
 dsimp only
 simp -implicitDefEqProofs only [ZS, Nat.reduceAdd]
 have w1 : ({ s with n := { s.n with role := 0, leader := frm, votes := [] }, vn := true } : Stp).n.wf := ⟨w.n.ln, w.n.lm⟩
 rw [ss_ticks w1]
 exact endB_n0 rfl
theorem followsK {s : Stp} (w : s.wf) (frm : Int) {β : Type} {P R : List AObj} {K : Kt β} : callK (EV C) false n_raft_stepper_follows [.ptr (P.length + 1) 1 0 0, .int .i64 frm] (hp P s R) K = K (.tup []) (hp P (followF s frm) R) [] := (follows_m w frm).call0 rfl
theorem followF_gd {s : Stp} (h : SGd s) (frm : Int) : SGd (followF s frm) := ⟨⟨⟨⟨h.w.n.ln, h.w.n.lm⟩, fun _ => rfl, h.w.en, h.w.out⟩, h.lg, h.sl⟩, h.id0, h.id1, h.nx, h.mt, h.c0, h.c1⟩
/-- a message that is built, and sent -/
theorem fsend {s : Stp} (ws : s.wf) {m : Msg} (wm : m.wf) {to : Int} (ho : s.out.length < 1000000) {cells c : List AV} {ps : List (Nat × Nat × AV)} (hf : fillB cells ps = some c) (hz : ∀ H, frz H (.agg c) = some m.av) (hk : kills (.agg c) = []) {β : Type} {P R : List AObj} {K : Kt β} :
  ((fillB cells ps).bind fun c => callK (EV C) false n_raft_stepper_send [.ptr (P.length + 1) 1 0 0, .int .i64 to, .agg c] (hp P s R) K) = K (.tup []) (hp P (sendF s to m) R) [] := by
 rw [hf, Option.bind_some, sendK ws wm to ho hz hk]
theorem SGd.sendF {s : Stp} (h : SGd s) {m : Msg} (wm : m.wf) (to : Int) : SGd (sendF s to m) := ⟨sendF_ok h.toSOk wm to, h.id0, h.id1, h.nx, h.mt, h.c0, h.c1⟩
def askedOk (n : Nde) (m : Msg) : Bool := decide (n.role = 0) && ((decide (n.voted = 0) || decide (n.voted = m.frm)) && (decide (termL n.log (lastL n.log) < m.lterm) || (decide (m.lterm = termL n.log (lastL n.log)) && decide (lastL n.log ≤ m.index))))
def askF (s : Stp) (m : Msg) : Stp :=
 let ok := askedOk s.n m
 let s1 : Stp := if ok = true then { s with n := { s.n with voted := m.frm, ticks := 0 } } else s
 sendF s1 m.frm { msg0 2 with ok := ok }
theorem ask_S6 {s : Stp} (h : SGd s) (m : Msg) (ok : Bool) (ho : s.out.length < 1000000) (P R : List AObj) : raft_stepper_ask_S6 (P.length + 2 + R.length) (.ptr (P.length + 1) 1 0 0) (.ptr (P.length + 2 + R.length) 1 0 0) (.bool ok) (hp P s (R ++ [mrow m])) [] = some (.tup [], hp P (sendF s m.frm { msg0 2 with ok := ok }) R, []) := by
 refine raft_stepper_ask_S6_of ?_
 simp -implicitDefEqProofs only [ZS, Nat.reduceAdd, ZK]
 rw [fsend (m := { msg0 2 with ok := ok }) h.w (tail0_wf rfl) ho rfl (fun H => rfl) rfl]
 exact endB_n1 [_] rfl
theorem ask_S4 {s : Stp} (h : SGd s) (m : Msg) (ok : Bool) (ho : s.out.length < 1000000) (P R : List AObj) : raft_stepper_ask_S4 (P.length + 2 + R.length) (.ptr (P.length + 1) 1 0 0) (.ptr (P.length + 2 + R.length) 1 0 0) (.ptr (P.length + 1) 1 0 0) (.bool ok) (hp P s (R ++ [mrow m])) [] =
  some (.tup [], hp P (sendF (if ok = true then { s with n := { s.n with voted := m.frm, ticks := 0 } } else s) m.frm { msg0 2 with ok := ok }) R, []) := by
 refine raft_stepper_ask_S4_of ?_
 cases ok with
 | true =>
  have w1 : ({ s with n := { s.n with voted := m.frm } } : Stp).n.wf := ⟨h.w.n.ln, h.w.n.lm⟩
  simp -implicitDefEqProofs only [ZS, Nat.reduceAdd, ZK, ss_ticks w1, if_true]
  have h2 : SGd { s with n := { s.n with voted := m.frm, ticks := 0 } } := ⟨⟨⟨⟨h.w.n.ln, h.w.n.lm⟩, h.w.vn, h.w.en, h.w.out⟩, h.lg, h.sl⟩, h.id0, h.id1, h.nx, h.mt, h.c0, h.c1⟩
  exact ask_S6 h2 m true ho P R
 | false =>
  simp -implicitDefEqProofs only [ZS, Nat.reduceAdd, Bool.false_eq_true, if_false]
  exact ask_S6 h m false ho P R
theorem ask_m {s : Stp} (h : SGd s) {m : Msg} (wm : m.wf) (ho : s.out.length < 1000000) : Meth n_raft_stepper_ask [m.av] s (.tup []) (askF s m) := fun P R => by
 refine raft_stepper_ask_of ?_
 dsimp only
 have fin : ∀ ok, askedOk s.n m = ok → raft_stepper_ask_S4 (P.length + 2 + R.length) (.ptr (P.length + 1) 1 0 0) (.ptr (P.length + 2 + R.length) 1 0 0) (.ptr (P.length + 1) 1 0 0) (.bool ok) (hp P s (R ++ [mrow m])) [] = some (.tup [], hp P (askF s m) R, []) := fun ok he => by
   rw [ask_S4 h m ok ho P R]
   unfold askF
   rw [he]
 have fin0 : ∀ ok, askedOk s.n m = ok → ok = false → raft_stepper_ask_S6 (P.length + 2 + R.length) (.ptr (P.length + 1) 1 0 0) (.ptr (P.length + 2 + R.length) 1 0 0) (.bool false) (hp P s (R ++ [mrow m])) [] = some (.tup [], hp P (askF s m) R, []) := fun ok he h0 => by
   subst h0
   rw [ask_S6 h m false ho P R]
   unfold askF
   rw [he]; rfl
 have hll : lastS s = lastL s.n.log := rfl
 rw [new_m wm]
 simp -implicitDefEqProofs only [ZS, Nat.reduceAdd, ZK, LastK h.toSOk]
 unfold askedOk at fin fin0
 by_cases h1 : s.n.role = 0
 · rw [if_pos h1]
   by_cases h2 : s.n.voted = 0
   · rw [if_pos h2]
     by_cases h3 : termL s.n.log (lastS s) < m.lterm
     · rw [if_pos h3]
       exact fin true (by rw [hll] at h3; simp [h1, h2, h3])
     · rw [if_neg h3]
       by_cases h4 : m.lterm = termL s.n.log (lastS s)
       · rw [if_pos h4]
         exact fin _ (by rw [hll] at h3 h4 ⊢; simp [h1, h2, h3, h4])
       · rw [if_neg h4]
         exact fin false (by rw [hll] at h3 h4; simp [h1, h2, h3, h4])
   · rw [if_neg h2]
     by_cases h5 : s.n.voted = m.frm
     · rw [if_pos h5]
       by_cases h3 : termL s.n.log (lastS s) < m.lterm
       · rw [if_pos h3]
         exact fin true (by rw [hll] at h3; simp [h1, h5, h3])
       · rw [if_neg h3]
         by_cases h4 : m.lterm = termL s.n.log (lastS s)
         · rw [if_pos h4]
           exact fin _ (by rw [hll] at h3 h4 ⊢; simp [h1, h5, h3, h4])
         · rw [if_neg h4]
           exact fin false (by rw [hll] at h3 h4; simp [h1, h5, h3, h4])
     · rw [if_neg h5]
       exact fin false (by simp [h2, h5])
 · rw [if_neg h1]
   exact fin false (by simp [h1])
theorem askK {s : Stp} (h : SGd s) {m : Msg} (wm : m.wf) (ho : s.out.length < 1000000) {β : Type} {P R : List AObj} {K : Kt β} : callK (EV C) false n_raft_stepper_ask [.ptr (P.length + 1) 1 0 0, m.av] (hp P s R) K = K (.tup []) (hp P (askF s m) R) [] := (ask_m h wm ho).call0 (by simp [goodL, Msg.avgood wm])
end Go.Pm
namespace Go.Pm
open Go.Proofs
set_option linter.unusedVariables false
set_option linter.unusedSimpArgs false
section
variable {P R X : List AObj} {s : Stp} {m : Msg}
theorem app1_v (e : Ent) (K : AV → List AObj → List Nat → Option R3) : valK Tryz.prog (EV C) false (.clo n_raft_stepper_app_1 [] [.ptr (P.length + 2 + R.length) 1 0 0]) [e.av] (hp P s (R ++ mrow m :: X)) K = K (.bool (decide (m.term < e.term))) (hp P s (R ++ mrow m :: X)) [] := by
 unfold valK
 dsimp only
 rw [if_pos (by kernel_rfl)]
 have hs1 : EV C n_raft_stepper_app_1 [e.av, .ptr (P.length + 2 + R.length) 1 0 0] (hp P s (R ++ mrow m :: X)) = some (.bool (decide (m.term < e.term)), hp P s (R ++ mrow m :: X), []) := by
  refine raft_stepper_app_1_of ?_
  dsimp only
  rw [show e.av = .agg [.int .i64 e.term, .int .i64 e.kind, bys e.data] from rfl, new_R (by simp) rfl]
  have l1 : loadA false 1 (.ptr (P.length + 2 + (R ++ mrow m :: X).length) 1 0 0) (hp P s (R ++ mrow m :: X ++ [.row ([AV.int .i64 e.term, .int .i64 e.kind, bys e.data] : List AV).length [.agg [.int .i64 e.term, .int .i64 e.kind, bys e.data]]])) = some (.int .i64 e.term) := ld_R rfl
  simp -implicitDefEqProofs only [offA_ptr, Option.bind_some, Nat.zero_add, l1]
  rw [show R ++ mrow m :: X ++ [.row ([AV.int .i64 e.term, .int .i64 e.kind, bys e.data] : List AV).length [.agg [.int .i64 e.term, .int .i64 e.kind, bys e.data]]] = R ++ mrow m :: (X ++ [.row ([AV.int .i64 e.term, .int .i64 e.kind, bys e.data] : List AV).length [.agg [.int .i64 e.term, .int .i64 e.kind, bys e.data]]]) from by simp]
  simp -implicitDefEqProofs only [lm_term, gtr_int, Option.bind_some, List.append_nil, hp_len]
  refine endB_n (P := P) (R := R ++ mrow m :: X) (s' := s) (X := [.row ([AV.int .i64 e.term, .int .i64 e.kind, bys e.data] : List AV).length [.agg [.int .i64 e.term, .int .i64 e.kind, bys e.data]]]) ?_ (frz_good _ _ rfl) rfl rfl
  simp
 have hs2 : callA (EV C) false n_raft_stepper_app_1 [e.av, .ptr (P.length + 2 + R.length) 1 0 0] (hp P s (R ++ mrow m :: X)) = some (.bool (decide (m.term < e.term)), hp P s (R ++ mrow m :: X), []) := by
  unfold callA
  rw [if_neg (by decide)]
  refine (congrArg (fun x => Option.bind x _) (show frzL _ [e.av, .ptr (P.length + 2 + R.length) 1 0 0] = some [e.av, .ptr (P.length + 2 + R.length) 1 0 0] from by simp only [frzL, frz_good _ _ (good_ent e), frz, Option.bind_some, Option.map_some])).trans ?_
  rw [Option.bind_some, if_neg (by simp [belL, AV.bel])]
  rw [show killsL [e.av, AV.ptr (P.length + 2 + R.length) 1 0 0] = [] from by simp only [killsL, kills_good _ (good_ent e), kills, List.append_nil]]
  exact hs1
 unfold callK
 rw [show ([] ++ [e.av] ++ [AV.ptr (P.length + 2 + R.length) 1 0 0]) = [e.av, .ptr (P.length + 2 + R.length) 1 0 0] from rfl, hs2]
 rfl
end
def appB (f : Stp) (m : Msg) (p : Int) (e : List Ent) : Stp :=
 let r := mergeL f.n.log p e
 if r.2.2 = 0 then
  if r.2.1 ≤ f.n.commit then f
  else if (e.any fun x => decide (m.term < x.term)) = true then f
  else
   let q := p + e.length
   let c := if q < m.commit then q else m.commit
   sendF { f with n := { f.n with log := r.1, commit := if c > f.n.commit then c else f.n.commit }, en := false } m.frm { msg0 4 with ok := true, index := q }
 else f
theorem errA_0 {c : Int} (h : c = 0) : errA c = .nili := if_pos h
theorem errA_1 {c : Int} (h : ¬ c = 0) : errA c = codeA c := if_neg h
theorem ld4_R {P R X : List AObj} {s : Stp} (g : Lg) : loadA true 4 (.ptr (P.length + 2 + R.length) 1 0 0) (hp P s (R ++ .row 4 [g.av] :: X)) = some g.av := by
 have h : (hp P s (R ++ .row 4 [g.av] :: X))[P.length + 2 + R.length]? = some (.row 4 [g.av]) := hp_M P s R X _
 rw [ld_aggp (cs := [.int .i64 g.index, .int .i64 g.term, ints g.mems, ents g.es]) h (by simp)]; rfl
theorem ss_lav {P R : List AObj} {s : Stp} {β : Type} {K : List AObj → List Nat → Option β} (g : Lg) : stoK 4 (.ptr (P.length + 1) 1 0 5) g.av (hp P s R) K = K (hp P { s with n := { s.n with log := g }, en := false } R) [] := ss_log g false
set_option maxHeartbeats 1000000 in
theorem app_S11 {f : Stp} (h : SGd f) {m : Msg} (wm : m.wf) (p : Int) (e : List Ent) (hh : hasL f.n.log p = true) (he : e.length < 2^39) (hge : f.n.log.es.length < 2^39) (hd : lightP e) (ho : f.out.length < 1000000) (P R : List AObj) :
   raft_stepper_app_S11 (P.length + 2 + R.length) (.ptr (P.length + 1) 1 0 0) (.ptr (P.length + 2 + R.length) 1 0 0) (.ptr (P.length + 1) 1 0 0) (.int .i64 p) (ents e) (hp P f (R ++ [mrow m])) [] = some (.tup [], hp P (appB f m p e) R, []) := by
 refine raft_stepper_app_S11_of ?_
 have hb := hasL_iff.1 hh
 have hl := h.last
 have hmo : most = 1152921504606846976 := rfl
 have hll : lastS f = f.n.log.index + f.n.log.es.length := rfl
 have e1 : IntKind.i64.wrap (p + (e.length : Int)) = p + e.length := wrap64 (by omega) (by omega)
 unfold appB
 dsimp only
 obtain ⟨r, hr⟩ : ∃ r, r = mergeL f.n.log p e := ⟨_, rfl⟩
 have hM : ∀ (H : List AObj) (K : AV → List AObj → List Nat → Option R3), callK (EV C) false n_log_Merge [f.lav, .int .i64 p, ents e] H K = K (.tup [r.1.av, .int .i64 r.2.1, errA r.2.2]) H [] := fun H K => by
   refine log_callK h.w (by simp [goodL, AV.good]) ?_
   rw [Merge_ok _ h.lg hge p e he hd]
   unfold mergeA
   rw [if_pos h.sl, if_pos hh, ← hr]; rfl
 rw [← hr]
 simp -implicitDefEqProofs only [ZS, Nat.reduceAdd, hM]
 rw [new_R (by simp) rfl]
 have l4 : ∀ (K : List AObj → List Nat → Option R3), stoK 4 (.ptr (P.length + 2 + (R ++ [mrow m]).length) 1 0 0) r.1.av (hp P f (R ++ [mrow m] ++ [.row ([(.int .i64 0), (.int .i64 0), .nils, .nils] : List AV).length [.agg [(.int .i64 0), (.int .i64 0), .nils, .nils]]])) K = K (hp P f (R ++ mrow m :: [.row 4 [r.1.av]])) [] := fun K => by
   have := sto_R (P := P) (R := R ++ [mrow m]) (X := []) (s := f) (z := 4) (cs := [(.int .i64 0), (.int .i64 0), .nils, .nils]) (ds := [.int .i64 r.1.index, .int .i64 r.1.term, ints r.1.mems, ents r.1.es]) (n := 4) (off := 0) (v := r.1.av) (K := K) rfl rfl (fun k => by simp [Lg.av, AV.cells, belL, bel_good _ _ (good_ints _), bel_good _ _ (good_ents _), AV.bel]) (by simp) rfl
   simp only [List.append_assoc, List.singleton_append] at this ⊢
   exact this
 simp -implicitDefEqProofs only [l4, Option.bind_some]
 by_cases h0 : r.2.2 = 0
 · rw [if_pos h0, errA_0 h0]
   simp -implicitDefEqProofs only [ZS, Nat.reduceAdd]
   by_cases h1 : r.2.1 ≤ f.n.commit
   · rw [if_pos h1, if_pos h1]
     exact endB_n1 [_, _] rfl
   · rw [if_neg h1, if_neg h1]
     have hcf : ∀ (K : AV → List AObj → List Nat → Option R3), callK (EV C) false n_ContainsFunc_api_Entry [ents e, .clo n_raft_stepper_app_1 [] [.ptr (P.length + 2 + R.length) 1 0 0]] (hp P f (R ++ [mrow m, .row 4 [r.1.av]])) K = K (.bool (e.any fun x => decide (m.term < x.term))) (hp P f (R ++ [mrow m, .row 4 [r.1.av]])) [] := fun K => by
      have hc := contFunc_ok e (.clo n_raft_stepper_app_1 [] [.ptr (P.length + 2 + R.length) 1 0 0]) (fun x => decide (m.term < x.term)) (hp P f (R ++ [mrow m, .row 4 [r.1.av]])) (by omega) rfl rfl (by simp [AV.bel, belL]) (fun x _ K => app1_v x K)
      have : callA (EV C) false n_ContainsFunc_api_Entry [ents e, .clo n_raft_stepper_app_1 [] [.ptr (P.length + 2 + R.length) 1 0 0]] (hp P f (R ++ [mrow m, .row 4 [r.1.av]])) = some (.bool (e.any fun x => decide (m.term < x.term)), hp P f (R ++ [mrow m, .row 4 [r.1.av]]), []) := by
       unfold callA
       rw [if_neg (by decide)]
       refine (congrArg (fun x => Option.bind x _) (show frzL _ [ents e, .clo n_raft_stepper_app_1 [] [.ptr (P.length + 2 + R.length) 1 0 0]] = some [ents e, .clo n_raft_stepper_app_1 [] [.ptr (P.length + 2 + R.length) 1 0 0]] from by simp only [frzL, frz_good _ _ (good_ents e), frz, Option.bind_some, Option.map_some])).trans ?_
       rw [Option.bind_some, if_neg (by simp [belL, AV.bel])]
       rw [show killsL [ents e, AV.clo n_raft_stepper_app_1 [] [.ptr (P.length + 2 + R.length) 1 0 0]] = [] from by simp only [killsL, kills_good _ (good_ents e), kills, List.append_nil]]
       exact hc
      unfold callK; rw [this]; rfl
     simp -implicitDefEqProofs only [hcf]
     cases hany : e.any fun x => decide (m.term < x.term) with
     | true =>
      simp -implicitDefEqProofs only [ZS, Nat.reduceAdd, if_true]
      exact endB_n1 [_, _] rfl
     | false =>
      have l5 : loadA true 4 (.ptr (P.length + 2 + (R ++ [mrow m]).length) 1 0 0) (hp P f (R ++ [mrow m, .row 4 [r.1.av]])) = some r.1.av := by
       have := ld4_R (P := P) (R := R ++ [mrow m]) (X := []) (s := f) r.1
       rw [List.append_assoc, List.singleton_append] at this
       exact this
      simp -implicitDefEqProofs only [ZS, Nat.reduceAdd, ZK, Bool.false_eq_true, if_false, l5, ss_lav, lenV_ents, add_int, e1, minA, maxA]
      have hw : ({ f with n := { f.n with log := r.1, commit := if (if p + (e.length : Int) < m.commit then p + (e.length : Int) else m.commit) > f.n.commit then (if p + (e.length : Int) < m.commit then p + (e.length : Int) else m.commit) else f.n.commit }, en := false } : Stp).wf := ⟨⟨h.w.n.ln, h.w.n.lm⟩, h.w.vn, (fun h => by cases h), h.w.out⟩
      rw [fsend (m := { msg0 4 with ok := true, index := p + (e.length : Int) }) hw (tail0_wf rfl) ho rfl (fun H => rfl) rfl]
      exact endB_n1 [_, _] rfl
 · rw [if_neg h0, errA_1 h0]
   unfold codeA
   simp -implicitDefEqProofs only [ZS, Nat.reduceAdd]
   exact endB_n1 [_, _] rfl
def replyF (f : Stp) (m : Msg) : Stp :=
 let b := if lastS f < m.index - 1 then lastS f else m.index - 1
 sendF f m.frm { msg0 4 with index := if 0 > b then 0 else b }
def appF' (s : Stp) (m : Msg) : Stp :=
 if s.n.role = 2 then s
 else
  let f := followF s m.frm
  if m.index < s.n.log.index then appB f m s.n.log.index (m.es.drop (if (m.es.length : Int) < s.n.log.index - m.index then (m.es.length : Int) else s.n.log.index - m.index).toNat)
  else if hasL s.n.log m.index = true then (if termL s.n.log m.index = m.lterm then appB f m m.index m.es else replyF f m) else replyF f m
set_option maxHeartbeats 1000000 in
theorem app_m {s : Stp} (h : SGd s) {m : Msg} (wm : m.wf) (hi0 : 0 ≤ m.index) (hi1 : m.index ≤ most) (he : m.es.length < 2^39) (hge : s.n.log.es.length < 2^39) (hd : lightP m.es) (ho : s.out.length < 1000000) : Meth n_raft_stepper_app [m.av] s (.tup []) (appF' s m) := fun P R => by
 refine raft_stepper_app_of ?_
 dsimp only
 have hl := h.last
 have hmo : most = 1152921504606846976 := rfl
 have hll : lastS s = s.n.log.index + s.n.log.es.length := rfl
 have hf := followF_gd h m.frm
 obtain ⟨f, hff⟩ : ∃ f, f = followF s m.frm := ⟨_, rfl⟩
 have hf : SGd f := by rw [hff]; exact hf
 have hfo : f.out = s.out ∧ f.n.log = s.n.log := by rw [hff]; exact ⟨rfl, rfl⟩
 have hfl : lastS f = lastS s := by unfold lastS; rw [hfo.2]
 rw [new_m wm]
 unfold appF'
 rw [← hff]
 dsimp only
 simp -implicitDefEqProofs only [ZS, Nat.reduceAdd, ZK, followsK h.w]
 rw [← hff]
 by_cases h2 : s.n.role = 2
 · rw [if_pos h2, if_pos h2]
   exact endB_n1 [_] rfl
 · rw [if_neg h2, if_neg h2]
   rw [hfo.2]
   by_cases hb : m.index < s.n.log.index
   · rw [if_pos hb, if_pos hb]
     have e1 : IntKind.i64.wrap (s.n.log.index - m.index) = s.n.log.index - m.index := wrap64 (by omega) (by omega)
     simp -implicitDefEqProofs only [ZS, Nat.reduceAdd, sub_int, e1, lenV_ents, minA]
     obtain ⟨c, hc⟩ : ∃ c : Nat, (if (m.es.length : Int) < s.n.log.index - m.index then (m.es.length : Int) else s.n.log.index - m.index) = (c : Int) := by
      split
      · exact ⟨_, rfl⟩
      · exact ⟨(s.n.log.index - m.index).toNat, by omega⟩
     have hcl : c ≤ m.es.length := by
      have := hc; split at this <;> omega
     rw [hc, cutA_ents (i := c) (j := m.es.length) rfl rfl hcl (Nat.le_refl _), Option.bind_some]
     rw [List.take_of_length_le (Nat.le_refl _), Int.toNat_natCast]
     exact app_S11 hf wm s.n.log.index (m.es.drop c) (by rw [hfo.2]; exact hasL_iff.2 (by omega)) (by simp; omega) (by rw [hfo.2]; exact hge) (fun x hx => hd x (List.mem_of_mem_drop hx)) (by rw [hfo.1]; exact ho) P R
   · rw [if_neg hb, if_neg hb]
     have e2 : IntKind.i64.wrap (m.index - 1) = m.index - 1 := wrap64 (by omega) (by omega)
     have wf1 : ({ msg0 4 with index := if 0 > (if lastS f < m.index - 1 then lastS f else m.index - 1) then 0 else (if lastS f < m.index - 1 then lastS f else m.index - 1) } : Msg).wf := tail0_wf rfl
     cases hh : hasL s.n.log m.index with
     | true =>
      rw [if_pos rfl]
      simp -implicitDefEqProofs only [ZS, Nat.reduceAdd, ZK, TermK hf.toSOk m.index (by rw [hfo.2]; exact hh)]
      rw [hfo.2]
      by_cases ht : termL s.n.log m.index = m.lterm
      · rw [if_pos ht, show decide (termL s.n.log m.index = m.lterm) = true from decide_eq_true ht]
        simp -implicitDefEqProofs only [ZS, Nat.reduceAdd]
        exact app_S11 hf wm m.index m.es (by rw [hfo.2]; exact hh) he (by rw [hfo.2]; exact hge) hd (by rw [hfo.1]; exact ho) P R
      · rw [if_neg ht, show decide (termL s.n.log m.index = m.lterm) = false from decide_eq_false ht]
        simp -implicitDefEqProofs only [ZS, Nat.reduceAdd, ZK, sub_int, e2, lastK hf.toSOk, drawK_t, minA, maxA]
        rw [fsend hf.w wf1 (by rw [hfo.1]; exact ho) rfl (fun H => rfl) rfl]
        exact endB_n1 [_] rfl
     | false =>
      rw [if_neg (by decide)]
      simp -implicitDefEqProofs only [ZS, Nat.reduceAdd, ZK, TermK0 hf.toSOk m.index (by rw [hfo.2]; exact hh)]
      unfold codeA
      simp -implicitDefEqProofs only [ZS, Nat.reduceAdd, ZK, sub_int, e2, lastK hf.toSOk, drawK_t, minA, maxA]
      rw [fsend hf.w wf1 (by rw [hfo.1]; exact ho) rfl (fun H => rfl) rfl]
      exact endB_n1 [_] rfl
theorem appMK {s : Stp} (h : SGd s) {m : Msg} (wm : m.wf) (hi0 : 0 ≤ m.index) (hi1 : m.index ≤ most) (he : m.es.length < 2^39) (hge : s.n.log.es.length < 2^39) (hd : lightP m.es) (ho : s.out.length < 1000000) {β : Type} {P R : List AObj} {K : Kt β} : callK (EV C) false n_raft_stepper_app [.ptr (P.length + 1) 1 0 0, m.av] (hp P s R) K = K (.tup []) (hp P (appF' s m) R) [] := (app_m h wm hi0 hi1 he hge hd ho).call0 (by simp [goodL, Msg.avgood wm])
end Go.Pm
namespace Go.Pm
open Go.Proofs
set_option linter.unusedVariables false
set_option linter.unusedSimpArgs false
def snapKeep (n : Nde) (m : Msg) : Bool := hasL n.log m.index && decide (termL n.log m.index = m.lterm)
def snapL (n : Nde) (m : Msg) : Lg := ⟨m.index, m.lterm, m.mems, if snapKeep n m = true then (compactL n.log m.index).es else []⟩
def snapE (f : Stp) (m : Msg) (g : Lg) (b : Bool) : Stp :=
 if soundL g = true then { sendF { f with n := { f.n with log := g, commit := m.index }, en := b } m.frm { msg0 4 with ok := true, index := m.index } with num := m.index } else f
def snapF (s : Stp) (m : Msg) : Stp :=
 if s.n.role = 2 then s
 else if mayL m.mems = true then
  (if s.n.term < m.lterm then s
  else
   let f := followF s m.frm
   if m.index ≤ f.n.commit then sendF f m.frm { msg0 4 with ok := true, index := f.n.commit }
   else snapE f m (snapL s.n m) (!snapKeep s.n m))
 else s
def lagv (g : Lg) (b : Bool) : AV := .agg [.int .i64 g.index, .int .i64 g.term, ints g.mems, nilv b (ents g.es)]
theorem frz_lagv {g : Lg} {b : Bool} (hb : b = true → g.es = []) (H : List AObj) : frzL H [lagv g b] = some [g.av] := by
 unfold lagv
 cases b with
 | true => rw [show g.av = .agg [.int .i64 g.index, .int .i64 g.term, ints g.mems, ents []] from by unfold Lg.av; rw [hb rfl]]; rfl
 | false => rfl
theorem kills_lagv (g : Lg) (b : Bool) : killsL [lagv g b] = [] := by cases b <;> rfl
set_option maxHeartbeats 1000000 in
theorem snap_S13 {f : Stp} (h : SGd f) (m : Msg) (g : Lg) (b : Bool) (hb : b = true → g.es = []) (hg : LgOk g) (ho : f.out.length < 1000000) (P R : List AObj) (x : AObj) (X : List AObj) :
  raft_stepper_snap_S13 (P.length + 2 + R.length) (.ptr (P.length + 1) 1 0 0) (.ptr (P.length + 2 + R.length) 1 0 0) (.ptr (P.length + 1) 1 0 0) (.ptr (P.length + 2 + (R ++ [mrow m, x]).length) 1 0 0) (hp P f (R ++ mrow m :: x :: .row 4 [lagv g b] :: X)) [] =
   some (.tup [], hp P (snapE f m g b) R, []) := by
 refine raft_stepper_snap_S13_of ?_
 have hl : ∀ f' : Stp, loadA true 4 (.ptr (P.length + 2 + (R ++ [mrow m, x]).length) 1 0 0) (hp P f' (R ++ mrow m :: x :: .row 4 [lagv g b] :: X)) = some (lagv g b) := fun f' => by
  have h4 : (hp P f' (R ++ [mrow m, x] ++ .row 4 [lagv g b] :: X))[P.length + 2 + (R ++ [mrow m, x]).length]? = some (.row 4 [lagv g b]) := hp_M P f' (R ++ [mrow m, x]) X _
  have := ld_aggp (cs := [.int .i64 g.index, .int .i64 g.term, ints g.mems, nilv b (ents g.es)]) (s := 4) (j := 0) h4 (by simp)
  simp only [List.append_assoc, List.cons_append, List.nil_append] at this
  exact this
 unfold snapE
 rw [hl, Option.bind_some, callK_nil (kills_lagv g b) (frz_lagv hb _) (by simp [goodL]) (Check_ok' g hg)]
 unfold checkA
 cases hs : soundL g with
 | false =>
  unfold codeA
  simp -implicitDefEqProofs only [ZS, Nat.reduceAdd, Bool.false_eq_true, if_false]
  exact endB_n1 _ rfl
 | true =>
  have sl : ∀ (K : List AObj → List Nat → Option R3) (R' : List AObj), stoK 4 (.ptr (P.length + 1) 1 0 5) (lagv g b) (hp P f R') K = K (hp P { f with n := { f.n with log := g }, en := b } R') [] := fun K R' => ss_log g b
  simp -implicitDefEqProofs only [ZS, Nat.reduceAdd, ZK, if_true, hl, sl, drawK_t]
  have hw : ({ f with n := { f.n with log := g, commit := m.index }, en := b } : Stp).wf := ⟨⟨h.w.n.ln, h.w.n.lm⟩, h.w.vn, hb, h.w.out⟩
  rw [fsend (m := { msg0 4 with ok := true, index := m.index }) hw (tail0_wf rfl) ho rfl (fun H => rfl) rfl]
  simp -implicitDefEqProofs only [ZS, Nat.reduceAdd, ZK]
  rw [ss_num (show (sendF { f with n := { f.n with log := g, commit := m.index }, en := b } m.frm { msg0 4 with ok := true, index := m.index }).n.wf from hw.n)]
  simp -implicitDefEqProofs only [ZS, Nat.reduceAdd, ZK]
  exact endB_n1 _ rfl
theorem CompactD {s : Stp} (h : SOk s) {i : Int} (hi : hasL s.n.log i = true) {H : List AObj} : callD (EV C) n_log_Compact [s.lav, .int .i64 i] H = some (.tup [(compactL s.n.log i).av, .nili]) := by
 refine log_callD h.w rfl ?_
 rw [Compact_ok _ _ h.lg]
 unfold compactA
 rw [if_pos h.sl, if_pos hi]
set_option maxHeartbeats 2000000 in
theorem snap_m {s : Stp} (h : SGd s) {m : Msg} (wm : m.wf) (hml : m.mems.length < 2^40) (ho : s.out.length < 1000000) : Meth n_raft_stepper_snap [m.av] s (.tup []) (snapF s m) := fun P R => by
 refine raft_stepper_snap_of ?_
 dsimp only
 have hf := followF_gd h m.frm
 obtain ⟨f, hff⟩ : ∃ f, f = followF s m.frm := ⟨_, rfl⟩
 have hf : SGd f := by rw [hff]; exact hf
 have hfo : f.out = s.out ∧ f.n.log = s.n.log ∧ f.n.commit = s.n.commit := by rw [hff]; exact ⟨rfl, rfl, rfl⟩
 have hog : f.out.length < 1000000 := by rw [hfo.1]; exact ho
 rw [new_m wm]
 unfold snapF
 rw [← hff]
 dsimp only
 simp -implicitDefEqProofs only [ZS, Nat.reduceAdd, ZK, callD_ok (show goodL [ints m.mems] = true from by simp [goodL]) (conf_May_ok m.mems (by omega)), followsK h.w]
 rw [← hff]
 by_cases h2 : s.n.role = 2
 · rw [if_pos h2, if_pos h2]
   exact endB_n1 [_] rfl
 · rw [if_neg h2, if_neg h2]
   cases hmay : mayL m.mems with
   | false =>
    simp -implicitDefEqProofs only [ZS, Nat.reduceAdd, Bool.false_eq_true, if_false]
    exact endB_n1 [_] rfl
   | true =>
    simp -implicitDefEqProofs only [ZS, Nat.reduceAdd, ZK, if_true]
    have hmlen := may_len hmay
    by_cases ht : s.n.term < m.lterm
    · rw [if_pos ht, if_pos ht]
      exact endB_n1 [_] rfl
    · rw [if_neg ht, if_neg ht]
      by_cases hc : m.index ≤ f.n.commit
      · rw [if_pos hc, if_pos (show m.index ≤ f.n.commit from hc)]
        rw [fsend (m := { msg0 4 with ok := true, index := f.n.commit }) hf.w (tail0_wf rfl) hog rfl (fun H => rfl) rfl]
        exact endB_n1 [_] rfl
      · rw [if_neg hc, if_neg (show ¬ m.index ≤ f.n.commit from hc)]
        have hcl := callD_ok (H := hp P f (R ++ [mrow m])) (show goodL [ints m.mems] = true from by simp [goodL]) (Clone_int_ok m.mems (by omega))
        rw [hcl, Option.bind_some]
        refine (congrArg (fun x => Option.bind x _) (show fillB _ _ = some [.int .i64 m.index, .int .i64 m.lterm, ints m.mems] from rfl)).trans ?_
        rw [Option.bind_some, new_R (by simp) rfl]
        have l3 : ∀ (K : List AObj → List Nat → Option R3), stoK 3 (.ptr (P.length + 2 + (R ++ [mrow m]).length) 1 0 0) (.agg [.int .i64 m.index, .int .i64 m.lterm, ints m.mems]) (hp P f (R ++ [mrow m] ++ [.row ([(.int .i64 0), (.int .i64 0), .nils] : List AV).length [.agg [(.int .i64 0), (.int .i64 0), .nils]]])) K = K (hp P f (R ++ [mrow m] ++ [.row 3 [.agg [.int .i64 m.index, .int .i64 m.lterm, ints m.mems]]])) [] := fun K =>
         sto_R (P := P) (R := R ++ [mrow m]) (X := []) (s := f) (z := 3) (cs := [(.int .i64 0), (.int .i64 0), .nils]) (n := 3) (off := 0) rfl rfl (fun k => by simp [AV.cells, belL, bel_good _ _ (good_ints _), AV.bel]) (by simp) rfl
        have l3b : loadA true 3 (.ptr (P.length + 2 + (R ++ [mrow m]).length) 1 0 0) (hp P f (R ++ [mrow m] ++ [.row 3 [.agg [.int .i64 m.index, .int .i64 m.lterm, ints m.mems]]])) = some (.agg [.int .i64 m.index, .int .i64 m.lterm, ints m.mems]) := by
         rw [ld_aggp (cs := [.int .i64 m.index, .int .i64 m.lterm, ints m.mems]) (hp_M P f (R ++ [mrow m]) [] _) (by simp)]; rfl
        have dr : ∀ (Y : AObj), loadA false 1 (.ptr (P.length + 2 + R.length) 1 0 4) (hp P f (R ++ [mrow m] ++ [Y])) = some (.int .i64 m.index) ∧ loadA false 1 (.ptr (P.length + 2 + R.length) 1 0 5) (hp P f (R ++ [mrow m] ++ [Y])) = some (.int .i64 m.lterm) ∧ loadA false 1 (.ptr (P.length + 2 + R.length) 1 0 9) (hp P f (R ++ [mrow m] ++ [Y])) = some (ints m.mems) := fun Y => by
         rw [show R ++ [mrow m] ++ [Y] = R ++ mrow m :: [Y] from by simp]
         exact ⟨lm_index, lm_lterm, lm_mems⟩
        have hcl2 := fun H => callD_ok (H := H) (show goodL [ints m.mems] = true from by simp [goodL]) (Clone_int_ok m.mems (by omega))
        simp -implicitDefEqProofs only [dr, Option.bind_some, drawK_t, hcl2, l3, l3b]
        refine (congrArg (fun x => Option.bind x _) (show fillB _ _ = some [.int .i64 m.index, .int .i64 m.lterm, ints m.mems, .nils] from rfl)).trans ?_
        rw [Option.bind_some, new_R (by simp) rfl]
        obtain ⟨x, hx⟩ : ∃ x, x = AObj.row 3 [.agg [.int .i64 m.index, .int .i64 m.lterm, ints m.mems]] := ⟨_, rfl⟩
        rw [← hx]
        have l4 : ∀ (K : List AObj → List Nat → Option R3), stoK 4 (.ptr (P.length + 2 + (R ++ [mrow m] ++ [x]).length) 1 0 0) (.agg [.int .i64 m.index, .int .i64 m.lterm, ints m.mems, .nils]) (hp P f (R ++ [mrow m] ++ [x] ++ [.row ([(.int .i64 0), (.int .i64 0), .nils, .nils] : List AV).length [.agg [(.int .i64 0), (.int .i64 0), .nils, .nils]]])) K = K (hp P f (R ++ [mrow m] ++ [x] ++ [.row 4 [lagv ⟨m.index, m.lterm, m.mems, []⟩ true]])) [] := fun K =>
         sto_R (P := P) (R := R ++ [mrow m] ++ [x]) (X := []) (s := f) (z := 4) (cs := [(.int .i64 0), (.int .i64 0), .nils, .nils]) (n := 4) (off := 0) rfl rfl (fun k => by simp [AV.cells, belL, bel_good _ _ (good_ints _), AV.bel]) (by simp) rfl
        rw [l4]
        rw [show R ++ [mrow m] ++ [x] = R ++ [mrow m, x] from by simp]
        simp -implicitDefEqProofs only [ZS, Nat.reduceAdd, ZK]
        unfold snapL snapKeep
        have hg0 : LgOk ⟨m.index, m.lterm, m.mems, []⟩ := ⟨by show m.mems.length < _; omega, by show ([] : List Ent).length < _; simp, fun e he => by cases he⟩
        cases hh : hasL s.n.log m.index with
        | false =>
         simp -implicitDefEqProofs only [TermD0 hf.toSOk m.index (by rw [hfo.2.1]; exact hh)]
         unfold codeA
         simp -implicitDefEqProofs only [ZS, Nat.reduceAdd, Bool.false_and, Bool.false_eq_true, if_false]
         exact snap_S13 hf m ⟨m.index, m.lterm, m.mems, []⟩ true (fun _ => rfl) hg0 hog P R x []
        | true =>
         simp -implicitDefEqProofs only [ZS, Nat.reduceAdd, ZK, TermD hf.toSOk m.index (by rw [hfo.2.1]; exact hh)]
         rw [hfo.2.1]
         by_cases htt : termL s.n.log m.index = m.lterm
         · rw [if_pos htt, show decide (termL s.n.log m.index = m.lterm) = true from decide_eq_true htt]
           simp -implicitDefEqProofs only [ZS, Nat.reduceAdd, ZK, CompactD hf.toSOk (show hasL f.n.log m.index = true by rw [hfo.2.1]; exact hh), Bool.and_self, if_true]
           rw [hfo.2.1]
           obtain ⟨c, hcc⟩ : ∃ c, c = compactL s.n.log m.index := ⟨_, rfl⟩
           have hc0 : c.es.length < 2^40 ∧ lightP c.es := by
            rw [hcc]
            have := h.es
            exact ⟨by simp [compactL]; omega, fun e he => h.lg.d e (List.mem_of_mem_drop he)⟩
           rw [← hcc]
           rw [show R ++ [mrow m, x, .row 4 [lagv ⟨m.index, m.lterm, m.mems, []⟩ true]] = R ++ [mrow m, x] ++ [.row 4 [lagv ⟨m.index, m.lterm, m.mems, []⟩ true]] from by simp]
           obtain ⟨R2, hR2⟩ : ∃ R2, R2 = R ++ [mrow m, x] ++ [.row 4 [lagv ⟨m.index, m.lterm, m.mems, []⟩ true]] := ⟨_, rfl⟩
           rw [← hR2, new_R (by simp) rfl]
           have d1 : loadA true 4 (.ptr (P.length + 1) 1 0 5) (hp P f (R2 ++ [.row ([(.int .i64 0), (.int .i64 0), .nils, .nils] : List AV).length [.agg [(.int .i64 0), (.int .i64 0), .nils, .nils]]])) = some f.lav := ls_log
           have d2 : loadA false 1 (.ptr (P.length + 2 + R.length) 1 0 4) (hp P f (R2 ++ [.row ([(.int .i64 0), (.int .i64 0), .nils, .nils] : List AV).length [.agg [(.int .i64 0), (.int .i64 0), .nils, .nils]]])) = some (.int .i64 m.index) := by
            rw [hR2, show R ++ [mrow m, x] ++ [.row 4 [lagv ⟨m.index, m.lterm, m.mems, []⟩ true]] ++ [.row ([(.int .i64 0), (.int .i64 0), .nils, .nils] : List AV).length [.agg [(.int .i64 0), (.int .i64 0), .nils, .nils]]] = R ++ mrow m :: [x, .row 4 [lagv ⟨m.index, m.lterm, m.mems, []⟩ true], .row ([(.int .i64 0), (.int .i64 0), .nils, .nils] : List AV).length [.agg [(.int .i64 0), (.int .i64 0), .nils, .nils]]] from by simp]
            exact lm_index
           have d3 := fun H => CompactD (H := H) hf.toSOk (show hasL f.n.log m.index = true by rw [hfo.2.1]; exact hh)
           rw [hfo.2.1, ← hcc] at d3
           have s4 : ∀ (K : List AObj → List Nat → Option R3), stoK 4 (.ptr (P.length + 2 + R2.length) 1 0 0) c.av (hp P f (R2 ++ [.row ([(.int .i64 0), (.int .i64 0), .nils, .nils] : List AV).length [.agg [(.int .i64 0), (.int .i64 0), .nils, .nils]]])) K = K (hp P f (R2 ++ [.row 4 [c.av]])) [] := fun K =>
            sto_R (P := P) (R := R2) (X := []) (s := f) (z := 4) (cs := [(.int .i64 0), (.int .i64 0), .nils, .nils]) (n := 4) (off := 0) (v := c.av) rfl rfl (fun k => by simp [Lg.av, AV.cells, belL, bel_good _ _ (good_ints _), bel_good _ _ (good_ents _), AV.bel]) (by simp) rfl
           have l6 : loadA false 1 (.ptr (P.length + 2 + R2.length) 1 0 3) (hp P f (R2 ++ [.row 4 [c.av]])) = some (ents c.es) := ld_R (cs := [.int .i64 c.index, .int .i64 c.term, ints c.mems, ents c.es]) rfl
           simp -implicitDefEqProofs only [d1, d2, d3, drawK_t, s4, Option.bind_some, eql_nn, condK_t, offA_ptr, Nat.zero_add, l6]
           have s5 : ∀ (K : List AObj → List Nat → Option R3), stoK 1 (.ptr (P.length + 2 + (R ++ [mrow m, x]).length) 1 0 3) (ents c.es) (hp P f (R2 ++ [.row 4 [c.av]])) K = K (hp P f (R ++ mrow m :: x :: .row 4 [lagv ⟨m.index, m.lterm, m.mems, c.es⟩ false] :: [.row 4 [c.av]])) [] := fun K => by
            have := sto_R (P := P) (R := R ++ [mrow m, x]) (X := [.row 4 [c.av]]) (s := f) (z := 4) (cs := [.int .i64 m.index, .int .i64 m.lterm, ints m.mems, .nils]) (ds := [.int .i64 m.index, .int .i64 m.lterm, ints m.mems, ents c.es]) (n := 1) (off := 3) (v := ents c.es) (K := K) rfl rfl (fun k => by simp [ents, AV.cells, belL, AV.bel, belL_good _ _ (goodL_ents _)]) (by simp) rfl
            rw [hR2]
            simp only [List.append_assoc, List.cons_append, List.nil_append] at this ⊢
            exact this
           rw [s5]
           simp -implicitDefEqProofs only [List.append_nil]
           exact snap_S13 hf m ⟨m.index, m.lterm, m.mems, c.es⟩ false (fun h => by cases h) ⟨by show m.mems.length < _; omega, hc0.1, hc0.2⟩ hog P R x [.row 4 [c.av]]
         · rw [if_neg htt, show decide (termL s.n.log m.index = m.lterm) = false from decide_eq_false htt]
           simp -implicitDefEqProofs only [ZS, Nat.reduceAdd, Bool.and_false, Bool.false_eq_true, if_false]
           exact snap_S13 hf m ⟨m.index, m.lterm, m.mems, []⟩ true (fun _ => rfl) hg0 hog P R x []
theorem snapK {s : Stp} (h : SGd s) {m : Msg} (wm : m.wf) (hml : m.mems.length < 2^40) (ho : s.out.length < 1000000) {β : Type} {P R : List AObj} {K : Kt β} : callK (EV C) false n_raft_stepper_snap [.ptr (P.length + 1) 1 0 0, m.av] (hp P s R) K = K (.tup []) (hp P (snapF s m) R) [] := (snap_m h wm hml ho).call0 (by simp [goodL, Msg.avgood wm])
end Go.Pm
namespace Go.Pm
open Go.Proofs
set_option linter.unusedVariables false
set_option linter.unusedSimpArgs false
def idxI (p : Int → Bool) (i : Nat) : List Int → Int
 | [] => -1
 | e :: l => if p e = true then (i : Int) else idxI p (i + 1) l
theorem idxI_any (p : Int → Bool) : ∀ (l : List Int) (i : Nat), decide (0 ≤ idxI p i l) = l.any p
 | [], i => rfl
 | e :: l, i => by
  unfold idxI
  cases h : p e with
  | true => simp [h]
  | false => simp [h, idxI_any p l (i + 1)]
theorem indexFuncI_J2 (l : List Int) (cl : AV) (p : Int → Bool) (n : Nat) (H : List AObj) (hn : n = H.length) (hl : l.length < 2^60) (hf : ∀ e ∈ l, ∀ K : AV → List AObj → List Nat → Option R3, valK Tryz.prog (EV C) false cl [.int .i64 e] H K = K (.bool (p e)) H []) : ∀ (m i : Nat), i + m = l.length →
  IndexFunc_int_J2 n (ints l) cl (.int .i64 (l.length : Int)) (.int .i64 (i : Int)) H [] = some (.int .i64 (idxI p i (l.drop i)), H, [])
 | 0, i, hi => by
  refine IndexFunc_int_J2_of ?_
  simp -implicitDefEqProofs only [lss_int, Option.bind_some, condK_dec]
  rw [if_neg (by omega), List.drop_eq_nil_of_le (by omega), hn]
  exact endB_H rfl
 | m + 1, i, hi => by
  refine IndexFunc_int_J2_of ?_
  have h : i < l.length := by omega
  simp -implicitDefEqProofs only [lss_int, Option.bind_some, condK_dec]
  rw [if_pos (by omega), ix_ints h, Option.bind_some, ld_i, Option.bind_some, hf _ (List.getElem_mem h), List.drop_eq_getElem_cons h, idxI]
  cases hp : p l[i] with
  | true =>
   simp -implicitDefEqProofs only [condK_t, List.append_nil, if_true]
   rw [hn]; exact endB_H rfl
  | false =>
   simp -implicitDefEqProofs only [condK_f, List.append_nil, add_int, Option.bind_some, Bool.false_eq_true, if_false]
   rw [show IntKind.i64.wrap ((i : Int) + 1) = ((i + 1 : Nat) : Int) from by rw [wrap64 (by omega) (by omega)]; omega]
   exact indexFuncI_J2 l cl p n H hn hl hf m (i + 1) (by omega)
theorem contFuncI_K (l : List Int) (cl : AV) (p : Int → Bool) (H : List AObj) (hl : l.length < 2^60) (h1 : frz H cl = some cl) (h2 : kills cl = []) (h3 : cl.bel 0 = false) (hf : ∀ e ∈ l, ∀ K : AV → List AObj → List Nat → Option R3, valK Tryz.prog (EV C) false cl [.int .i64 e] H K = K (.bool (p e)) H []) (K : AV → List AObj → List Nat → Option R3) : callK (EV C) false n_ContainsFunc_int [ints l, cl] H K = K (.bool (l.any p)) H [] := by
 have hcl : ∀ g : FuncId, callA (EV C) false g [ints l, cl] H = EV C g [ints l, cl] H := fun g => by
  unfold callA
  rw [if_neg (by decide), show frzL H [ints l, cl] = some [ints l, cl] from by simp only [frzL, h1, Option.bind_some, Option.map_some]; rw [frz_good H _ (good_ints l)]; rfl, Option.bind_some, if_neg (by simp [belL, h3]), show killsL [ints l, cl] = [] from by simp only [killsL, h2, kills_good _ (good_ints l), List.append_nil]]
  rfl
 have hi : EV C n_IndexFunc_int [ints l, cl] H = some (.int .i64 (idxI p 0 l), H, []) := by
  refine IndexFunc_int_of ?_
  dsimp only
  rw [lenV_ints, Option.bind_some]
  simpa using indexFuncI_J2 l cl p H.length H rfl hl hf l.length 0 (by omega)
 have hc : EV C n_ContainsFunc_int [ints l, cl] H = some (.bool (l.any p), H, []) := by
  refine ContainsFunc_int_of ?_
  dsimp only
  unfold callK
  rw [hcl, hi, Option.bind_some]
  simp -implicitDefEqProofs only [geq_int, Option.bind_some, List.append_nil, idxI_any]
  exact endB_H rfl
 unfold callK
 rw [hcl, hc]; rfl
def stepQ (p q : List Int) : Bool := mayL p && (mayL q && (decide ((q.length : Int) = (p.length : Int) + 1) && !(p.any fun x => !hasF q x)))
def stepC (a b : List Int) : Bool := if b.length < a.length then stepQ b a else stepQ a b
theorem step1_v (q : List Int) (hq : q.length ≤ 2^60) (x : Int) (K : AV → List AObj → List Nat → Option R3) : valK Tryz.prog (EV C) false (.clo n_conf_Step_1 [] [.ptr 0 1 0 0]) [.int .i64 x] [.row 1 [ints q]] K = K (.bool (!hasF q x)) [.row 1 [ints q]] [] := by
 unfold valK
 dsimp only
 rw [if_pos (by kernel_rfl)]
 have hs1 : EV C n_conf_Step_1 [.int .i64 x, .ptr 0 1 0 0] [.row 1 [ints q]] = some (.bool (!hasF q x), [.row 1 [ints q]], []) := by
  refine conf_Step_1_of ?_
  dsimp only
  rw [show loadA false 1 (.ptr 0 1 0 0) [.row 1 [ints q]] = some (ints q) from rfl, Option.bind_some, confHasK _ _ hq]
  exact endB_H (H := [.row 1 [ints q]]) rfl
 unfold callK
 rw [show callA (EV C) false n_conf_Step_1 ([] ++ [AV.int .i64 x] ++ [AV.ptr 0 1 0 0]) [.row 1 [ints q]] = EV C n_conf_Step_1 [.int .i64 x, .ptr 0 1 0 0] [.row 1 [ints q]] from rfl, hs1]
 rfl
theorem confMayK (l : List Int) (hl : l.length < 2^62) {β : Type} {H : List AObj} {K : Kt β} : callK (EV C) false n_conf_May [ints l] H K = K (.bool (mayL l)) H [] := callK_ok (by simp [goodL]) (conf_May_ok l hl)
theorem confStep_ok (a b : List Int) (ha : a.length ≤ 2^60) (hb : b.length ≤ 2^60) : EV C n_conf_Step [ints a, ints b] [] = some (.bool (stepC a b), [], []) := by
 refine conf_Step_of ?_
 dsimp only
 have n1 : ∀ (K : AV → List AObj → List Nat → Option R3), newK (ints b) [] K = K (.ptr 0 1 0 0) [.row 1 [ints b]] [] := fun K => rfl
 have l1 : ∀ q : List Int, loadA false 1 (.ptr 0 1 0 0) [.row 1 [ints q]] = some (ints q) := fun q => rfl
 have s1 : ∀ (K : List AObj → List Nat → Option R3), stoK 1 (.ptr 0 1 0 0) (ints a) [.row 1 [ints b]] K = K [.row 1 [ints a]] [] := fun K => by
   have : storeA 1 (.ptr 0 1 0 0) (ints a) [.row 1 [ints b]] = some ([.row 1 [ints a]], []) := by
    simp only [storeA, List.getElem?_cons_zero, List.length_singleton, ints, AV.cells, List.all_cons, AV.one, List.all_nil, Bool.and_self, and_self, if_true, Option.bind_some, setC, set1, Option.map_some, List.set_cons_zero, escs, belL, AV.bel, belL_good _ _ (goodL_i64 a)]
   unfold stoK; rw [this]; rfl
 simp -implicitDefEqProofs only [n1, l1, lenV_ints, Option.bind_some, gtr_int, condK_dec]
 unfold stepC
 have key : ∀ (p q : List Int), p.length ≤ 2^60 → q.length ≤ 2^60 → ((callK (EV C) false n_conf_May [ints p] [.row 1 [ints q]] fun a8 H8 E8 =>
   splitK a8
    ((loadA false 1 (.ptr 0 1 0 0) H8).bind fun a9 =>
    callK (EV C) false n_conf_May [a9] H8 fun a10 H10 E10 =>
    splitK a10
     ((loadA false 1 (.ptr 0 1 0 0) H10).bind fun a11 =>
     (lenV a11 H10).bind fun a12 =>
     (binA .add (Go.TypeDesc.int Go.IntKind.i64) (cmpT Tryz.prog) true (.int .i64 (p.length : Int)) (.int .i64 1)).bind fun a14 =>
     (binA .eql (Go.TypeDesc.int Go.IntKind.i64) (cmpT Tryz.prog) false a12 a14).bind fun a15 =>
     splitK a15
       (callK (EV C) false n_ContainsFunc_int [ints p, (.clo n_conf_Step_1 [] [.ptr 0 1 0 0])] H10 fun a16 H16 E16 =>
       (unA .not a16).bind fun a17 =>
       endB false false 0 a17 H16 (E16 ++ (E10 ++ (E8 ++ ([] ++ ([] ++ []))))))
       (endB false false 0 (.bool false) H10 (E10 ++ (E8 ++ ([] ++ ([] ++ []))))))
     (endB false false 0 (.bool false) H10 (E10 ++ (E8 ++ ([] ++ ([] ++ []))))))
    (endB false false 0 (.bool false) H8 (E8 ++ ([] ++ ([] ++ []))))) : Option R3) = some (.bool (stepQ p q), [], []) := fun p q hp hq => by
   have e1 : IntKind.i64.wrap ((p.length : Int) + 1) = (p.length : Int) + 1 := wrap64 (by omega) (by omega)
   unfold stepQ
   simp -implicitDefEqProofs only [confMayK p (by omega), confMayK q (by omega)]
   cases h1 : mayL p with
   | false => simp only [splitK_f, Bool.false_and]; exact endB_good rfl
   | true =>
    simp -implicitDefEqProofs only [splitK_t, l1, Option.bind_some, confMayK q (show q.length < 2^62 by omega)]
    cases h2 : mayL q with
    | false => simp only [splitK_f, Bool.false_and, Bool.and_false]; exact endB_good rfl
    | true =>
     simp -implicitDefEqProofs only [splitK_t, l1, Option.bind_some, lenV_ints, add_int, e1, eql_int]
     by_cases h3 : (q.length : Int) = (p.length : Int) + 1
     · rw [show decide ((q.length : Int) = (p.length : Int) + 1) = true from decide_eq_true h3]
       simp -implicitDefEqProofs only [splitK_t, contFuncI_K p (.clo n_conf_Step_1 [] [.ptr 0 1 0 0]) (fun x => !hasF q x) [.row 1 [ints q]] (by omega) rfl rfl rfl (fun x _ K => step1_v q hq x K), not_bool, Option.bind_some]
       exact (endB_good rfl).trans (by simp)
     · rw [show decide ((q.length : Int) = (p.length : Int) + 1) = false from decide_eq_false h3]
       simp -implicitDefEqProofs only [splitK_f, Bool.false_and, Bool.and_false]
       exact endB_good rfl
 by_cases hlt : (b.length : Int) < (a.length : Int)
 · rw [if_pos hlt, if_pos (by omega)]
   simp -implicitDefEqProofs only [s1]
   exact key b a hb ha
 · rw [if_neg hlt, if_neg (by omega)]
   exact key a b ha hb
def byL (l : List Int) : List UInt8 := l.map fun x => UInt8.ofNat x.toNat
theorem bytes_J5 (l : List Int) (hm : ∀ x ∈ l, 1 ≤ x ∧ x ≤ 7) (hl : l.length ≤ 7) : ∀ (m i : Nat), i + m = l.length →
  conf_Bytes_J5 0 (.slc 0 0 i i) (ints l) (.int .i64 (l.length : Int)) (.int .i64 (i : Int)) [vro 1 ((byL (l.take i)).map u8)] [] = some (.tup [bys (byL l), .nili], [], [])
 | 0, i, hi => by
  refine conf_Bytes_J5_of ?_
  simp -implicitDefEqProofs only [lss_int, Option.bind_some, condK_dec]
  rw [if_neg (by omega)]
  have : l.take i = l := List.take_of_length_le (by omega)
  rw [this]
  have hf : frz [vro 1 ((byL l).map u8)] (.slc 0 0 i i) = some (bys (byL l)) := frz_vro (z := 1) rfl (by simp [byL]; omega) (goodL_u8 _)
  refine endB_frz (u := .tup [bys (byL l), .nili]) (frz_tup (frzL_cons hf (frzL_cons rfl rfl))) (by simp [AV.good, goodL])
 | m + 1, i, hi => by
  refine conf_Bytes_J5_of ?_
  have h : i < l.length := by omega
  have hx := hm _ (List.getElem_mem h)
  have e3 : IntKind.i64.wrap ((i : Int) + 1) = ((i + 1 : Nat) : Int) := w64 (by omega) (by omega)
  have eu : AV.int .u8 (IntKind.u8.wrap l[i]) = u8 (UInt8.ofNat l[i].toNat) := by
   rw [u8_nat, show l[i] = ((l[i].toNat : Nat) : Int) from by omega, wrap_u8]
   simp
  simp -implicitDefEqProofs only [lss_int, Option.bind_some, condK_dec]
  rw [if_pos (by omega), ix_ints h, Option.bind_some, ld_i, Option.bind_some]
  simp -implicitDefEqProofs only [cvI_int, Option.bind_some]
  rw [eu]
  have lit : ∀ (x : UInt8) (H : List AObj) (K : AV → List AObj → List Nat → Option R3), litK 1 1 (.int .u8 0) [(0, u8 x)] H K = K (.lst [u8 x]) H [] := fun x H K => rfl
  rw [lit, appK_vro (l := 0) (z := 1) (n := i) (es := (byL (l.take i)).map u8) (ys := [u8 (UInt8.ofNat l[i].toNat)]) rfl rfl (by simp [byL]; omega) rfl (by decide) (by decide) (by decide) (by simp; omega)]
  simp -implicitDefEqProofs only [add_int, Option.bind_some, e3, List.set_cons_zero, List.append_nil, List.length_singleton, List.isEmpty_cons, Bool.false_eq_true, if_false]
  rw [escs_good (by rfl)]
  have e5 : (byL (l.take i)).map u8 ++ [u8 (UInt8.ofNat l[i].toNat)] = (byL (l.take (i + 1))).map u8 := by
   rw [List.take_succ_eq_append_getElem h]; simp only [byL, List.map_append, List.map_cons, List.map_nil]
  rw [e5]
  exact bytes_J5 l hm hl m (i + 1) (by omega)
theorem confBytes_ok (l : List Int) (hl : l.length < 2^60) : EV C n_conf_Bytes [ints l] [] = some (if mayL l = true then .tup [bys (byL l), .nili] else .tup [.lst [], codeA 1], [], []) := by
 refine conf_Bytes_of ?_
 dsimp only
 rw [confMayK l (by omega)]
 cases h : mayL l with
 | false =>
  simp -implicitDefEqProofs only [not_bool, Option.bind_some, Bool.not_false, condK_t, Bool.false_eq_true, if_false]
  exact endB_frz (u := .tup [.lst [], codeA 1]) rfl rfl
 | true =>
  simp -implicitDefEqProofs only [not_bool, Option.bind_some, Bool.not_true, condK_f, if_true, lenV_ints]
  have := bytes_J5 l (may_mem h) (may_len h) l.length 0 (by omega)
  exact this
theorem ofB_byL {l : List Int} (h : ∀ x ∈ l, 1 ≤ x ∧ x ≤ 7) : ofB (byL l) = l := by
 unfold ofB byL
 rw [List.map_map]
 refine (List.map_congr_left fun x hx => ?_).trans (List.map_id l)
 have := h x hx
 simp only [Function.comp, id]
 have e : (UInt8.ofNat x.toNat).toNat = x.toNat := by simp; omega
 rw [e]; omega
end Go.Pm
namespace Go.Pm
open Go.Proofs
set_option linter.unusedVariables false
set_option linter.unusedSimpArgs false
theorem SGd.setNext {s : Stp} (h : SGd s) (i : Nat) (x : Int) (h0 : 0 ≤ x) (h1 : x ≤ most) : SGd { s with n := { s.n with next := s.n.next.set i x } } := by
 refine ⟨⟨⟨⟨by simp [h.w.n.ln], h.w.n.lm⟩, h.w.vn, h.w.en, h.w.out⟩, h.lg, h.sl⟩, h.id0, h.id1, fun j hj => ?_, h.mt, h.c0, h.c1⟩
 show 0 ≤ (s.n.next.set i x).getD j 0 ∧ (s.n.next.set i x).getD j 0 ≤ most
 by_cases hi : i < s.n.next.length
 · rw [getD_set hi]
   split
   · exact ⟨h0, h1⟩
   · exact h.nx j hj
 · rw [List.set_eq_of_length_le (by omega)]; exact h.nx j hj
theorem SGd.setMtch {s : Stp} (h : SGd s) (i : Nat) (x : Int) (h0 : 0 ≤ x) (h1 : x ≤ most) : SGd { s with n := { s.n with mtch := s.n.mtch.set i x } } := by
 refine ⟨⟨⟨⟨h.w.n.ln, by simp [h.w.n.lm]⟩, h.w.vn, h.w.en, h.w.out⟩, h.lg, h.sl⟩, h.id0, h.id1, h.nx, fun j hj => ?_, h.c0, h.c1⟩
 show 0 ≤ (s.n.mtch.set i x).getD j 0 ∧ (s.n.mtch.set i x).getD j 0 ≤ most
 by_cases hi : i < s.n.mtch.length
 · rw [getD_set hi]
   split
   · exact ⟨h0, h1⟩
   · exact h.mt j hj
 · rw [List.set_eq_of_length_le (by omega)]; exact h.mt j hj
theorem drawK_True {β : Type} (x : Option β) : drawK True x = x := drawK_t trivial x
def backN (n : Nde) (m : Msg) : Int :=
 let b := n.next.getD m.frm.toNat 0 - 1
 let c := if b < m.index + 1 then b else m.index + 1
 let d := n.mtch.getD m.frm.toNat 0 + 1
 let e := if d > c then d else c
 if most < e then most else e
def backF (s : Stp) (m : Msg) : Stp := { s with n := { s.n with next := s.n.next.set m.frm.toNat (backN s.n m) } }
def gotF (s : Stp) (m : Msg) : Stp := { s with n := { s.n with mtch := s.n.mtch.set m.frm.toNat (if m.index > s.n.mtch.getD m.frm.toNat 0 then m.index else s.n.mtch.getD m.frm.toNat 0) } }
def fwdF (s : Stp) (m : Msg) : Stp := { s with n := { s.n with next := s.n.next.set m.frm.toNat (if most < s.n.mtch.getD m.frm.toNat 0 + 1 then most else s.n.mtch.getD m.frm.toNat 0 + 1) } }
def ackF (s : Stp) (m : Msg) : Stp :=
 if m.ok = true then
  (if lastS s < m.index then s
  else
   let c := countsF (fwdF (gotF s m) m)
   if c.n.role = 2 then (if c.n.next.getD m.frm.toNat 0 ≤ lastS c then sendF c m.frm (bringM c.n m.frm) else c) else c)
 else sendF (backF s m) m.frm (bringM (backF s m).n m.frm)
theorem bringK {s : Stp} (h : SGd s) (to : Int) (h0 : 0 ≤ to) (h8 : to < 8) (ho : s.out.length < 1000000) {β : Type} {P R : List AObj} {K : Kt β} : callK (EV C) false n_raft_stepper_bring [.ptr (P.length + 1) 1 0 0, .int .i64 to] (hp P s R) K = K (.tup []) (hp P (sendF s to (bringM s.n to)) R) [] := (bring_m h to h0 h8 ho).call0 rfl
theorem backN_bounds {s : Stp} (h : SGd s) (m : Msg) (h0 : 0 ≤ m.frm) (h8 : m.frm < 8) : 0 ≤ backN s.n m ∧ backN s.n m ≤ most := by
 have hmo : most = 1152921504606846976 := rfl
 have n1 := h.nx m.frm.toNat (by omega)
 have n2 := h.mt m.frm.toNat (by omega)
 unfold backN
 dsimp only
 split <;> split <;> split <;> omega
theorem backF_gd {s : Stp} (h : SGd s) (m : Msg) (h0 : 0 ≤ m.frm) (h8 : m.frm < 8) : SGd (backF s m) := h.setNext _ _ (backN_bounds h m h0 h8).1 (backN_bounds h m h0 h8).2
theorem gotF_gd {s : Stp} (h : SGd s) (m : Msg) (h8 : m.frm.toNat < 8) (hi0 : 0 ≤ m.index) (hi1 : m.index ≤ most) : SGd (gotF s m) := by
 have n2 := h.mt m.frm.toNat h8
 exact h.setMtch _ _ (by split <;> omega) (by split <;> omega)
theorem fwdF_gd {s : Stp} (h : SGd s) (m : Msg) (h8 : m.frm.toNat < 8) : SGd (fwdF s m) := by
 have n2 := h.mt m.frm.toNat h8
 have hmo : most = 1152921504606846976 := rfl
 exact h.setNext _ _ (by split <;> omega) (by split <;> omega)
set_option maxHeartbeats 1000000 in
theorem ack_m {s : Stp} (h : SGd s) {m : Msg} (wm : m.wf) (h0 : 1 ≤ m.frm) (h7 : m.frm ≤ 7) (hi0 : 0 ≤ m.index) (hi1 : m.index ≤ most) (ho : s.out.length < 900000) : Meth n_raft_stepper_ack [m.av] s (.tup []) (ackF s m) := fun P R => by
 refine raft_stepper_ack_of ?_
 dsimp only
 have hmo : most = 1152921504606846976 := rfl
 have h8 : m.frm.toNat < 8 := by omega
 have n1 := h.nx m.frm.toNat h8
 have n2 := h.mt m.frm.toNat h8
 have ar : ∀ off, arA 8 1 (.ptr (P.length + 1) 1 0 off) (.int .i64 m.frm) = some (.ptr (P.length + 1) 1 0 (off + m.frm.toNat)) := fun off => arA_int (by omega) (by omega)
 rw [new_m wm]
 simp -implicitDefEqProofs only [ZS, Nat.reduceAdd, ZK]
 unfold ackF
 cases hok : m.ok with
 | false =>
  rw [show (!false) = true from rfl, if_neg (by decide)]
  have e1 : IntKind.i64.wrap (m.index + 1) = m.index + 1 := wrap64 (by omega) (by omega)
  have e2 : IntKind.i64.wrap (s.n.next.getD m.frm.toNat 0 - 1) = s.n.next.getD m.frm.toNat 0 - 1 := wrap64 (by omega) (by omega)
  have e3 : IntKind.i64.wrap (s.n.mtch.getD m.frm.toNat 0 + 1) = s.n.mtch.getD m.frm.toNat 0 + 1 := wrap64 (by omega) (by omega)
  simp -implicitDefEqProofs only [ZS, Nat.reduceAdd, ZK, add_int, sub_int, e1, ar, ls_next h.w.n h8, ls_mtch h.w.n h8, e2, e3, minA, maxA, ss_next h.w.n h8]
  have hg := backF_gd h m (by omega) (by omega)
  refine (bringK hg m.frm (by omega) (by omega) (show s.out.length < _ by omega)).trans ?_
  exact endB_n1 (v := .tup []) [mrow m] rfl
 | true =>
  rw [show (!true) = false from rfl, if_pos rfl]
  simp -implicitDefEqProofs only [ZS, Nat.reduceAdd, ZK, lastK h.toSOk]
  simp -implicitDefEqProofs only [drawK_True]
  by_cases hl : lastS s < m.index
  · rw [if_pos hl, if_pos hl]
    exact endB_n1 [_] rfl
  · rw [if_neg hl, if_neg hl]
    have hg1 := gotF_gd h m h8 hi0 hi1
    have hg2 := fwdF_gd hg1 m h8
    simp -implicitDefEqProofs only [ZS, Nat.reduceAdd, ZK, ar, ls_mtch h.w.n h8, maxA, ss_mtch h.w.n h8]
    obtain ⟨g, hgg⟩ : ∃ g, g = gotF s m := ⟨_, rfl⟩
    rw [show ({ s with n := { s.n with mtch := s.n.mtch.set m.frm.toNat (if m.index > s.n.mtch.getD m.frm.toNat 0 then m.index else s.n.mtch.getD m.frm.toNat 0) } } : Stp) = g from hgg.symm]
    have hgo : g.out = s.out := by rw [hgg]; rfl
    rw [← hgg] at hg1 hg2 ⊢
    have n3 := hg1.mt m.frm.toNat h8
    have e4 : IntKind.i64.wrap (g.n.mtch.getD m.frm.toNat 0 + 1) = g.n.mtch.getD m.frm.toNat 0 + 1 := wrap64 (by omega) (by omega)
    simp -implicitDefEqProofs only [ZS, Nat.reduceAdd, ZK, ar, ls_mtch hg1.w.n h8, add_int, e4, minA, ss_next hg1.w.n h8]
    rw [show ({ g with n := { g.n with next := g.n.next.set m.frm.toNat (if 1152921504606846976 < g.n.mtch.getD m.frm.toNat 0 + 1 then 1152921504606846976 else g.n.mtch.getD m.frm.toNat 0 + 1) } } : Stp) = fwdF g m from rfl, countsK hg2]
    have hc := countsF_gd hg2
    have hco := (countsF_out (fwdF g m)).1
    obtain ⟨c, hcc⟩ : ∃ c, c = countsF (fwdF g m) := ⟨_, rfl⟩
    rw [← hcc] at hc hco ⊢
    have hco2 : c.out.length < 1000000 := by rw [hco]; show g.out.length < _; rw [hgo]; omega
    simp -implicitDefEqProofs only [ZS, Nat.reduceAdd, ZK, drawK_True]
    by_cases hr : c.n.role = 2
    · rw [if_pos hr, if_pos hr]
      simp -implicitDefEqProofs only [ZS, Nat.reduceAdd, ZK, ar, ls_next hc.w.n h8, lastK hc.toSOk, drawK_True]
      by_cases hn : c.n.next.getD m.frm.toNat 0 ≤ lastS c
      · rw [if_pos hn, if_pos hn, bringK hc m.frm (by omega) (by omega) hco2]
        exact endB_n1 [_] rfl
      · rw [if_neg hn, if_neg hn]
        exact endB_n1 [_] rfl
    · rw [if_neg hr, if_neg hr]
      exact endB_n1 [_] rfl
theorem ackK {s : Stp} (h : SGd s) {m : Msg} (wm : m.wf) (h0 : 1 ≤ m.frm) (h7 : m.frm ≤ 7) (hi0 : 0 ≤ m.index) (hi1 : m.index ≤ most) (ho : s.out.length < 900000) {β : Type} {P R : List AObj} {K : Kt β} : callK (EV C) false n_raft_stepper_ack [.ptr (P.length + 1) 1 0 0, m.av] (hp P s R) K = K (.tup []) (hp P (ackF s m) R) [] := (ack_m h wm h0 h7 hi0 hi1 ho).call0 (by simp [goodL, Msg.avgood wm])
def newF (m : List Int) (s : Stp) (l : List Int) : Stp := l.foldl (fun s id => if hasF m id = true then s else { s with n := { s.n with mtch := s.n.mtch.set id.toNat 0, next := s.n.next.set id.toNat (lastS s + 1) } }) s
theorem newF_has {m : List Int} {s : Stp} {x : Int} {l : List Int} (h : hasF m x = true) : newF m s (x :: l) = newF m s l := by
 show newF m (if hasF m x = true then s else _) l = _
 rw [if_pos h]
theorem newF_not {m : List Int} {s : Stp} {x : Int} {l : List Int} (h : ¬ hasF m x = true) : newF m s (x :: l) = newF m { s with n := { s.n with mtch := s.n.mtch.set x.toNat 0, next := s.n.next.set x.toNat (lastS s + 1) } } l := by
 show newF m (if hasF m x = true then s else _) l = _
 rw [if_neg h]
def changeF (s : Stp) (l : List Int) : Stp :=
 if s.n.role = 2 then
  (if stepC (memsS s) l = true then
   (if hasF (memsS s) s.n.id = true then
    (if most ≤ lastS s then s
    else if termL s.n.log s.n.commit = s.n.term then
     (if pendF s = true then s
     else if mayL l = true then proposeF (newF (memsS s) s l) 2 (byL l) else s)
    else s)
   else s)
  else s)
 else s
theorem change_J7 (mm l : List Int) (hl : mayL l = true) (hmm : mm.length ≤ 2^60) (b : List UInt8) (hb : b = byL l) (P R : List AObj) : ∀ (k i : Nat) (s : Stp), i + k = l.length → SGd s → lastS s < most → EOk s.n 2 b → s.out.length < 800000 →
  raft_stepper_change_J7 (P.length + 2 + R.length) (.ptr (P.length + 1) 1 0 0) (.ptr (P.length + 1) 1 0 0) (ints mm) (bys b) (ints l) (.int .i64 (l.length : Int)) (.int .i64 (i : Int)) (hp P s R) [] = some (.tup [], hp P (proposeF (newF mm s (l.drop i)) 2 b) R, [])
 | 0, i, s, hi, h, hls, he, ho => by
  refine raft_stepper_change_J7_of ?_
  simp -implicitDefEqProofs only [ZS, Nat.reduceAdd]
  rw [if_neg (by omega), List.drop_eq_nil_of_le (by omega), (propose_m h 2 b he ho).call0 (by simp [goodL, AV.good])]
  exact endB_n0 rfl
 | k + 1, i, s, hi, h, hls, he, ho => by
  refine raft_stepper_change_J7_of ?_
  have hlt : i < l.length := by omega
  have hx := may_mem hl _ (List.getElem_mem hlt)
  have hlen := may_len hl
  have hmo : most = 1152921504606846976 := rfl
  have hla := h.last
  have e3 : IntKind.i64.wrap ((i : Int) + 1) = ((i + 1 : Nat) : Int) := w64 (by omega) (by omega)
  have e4 : IntKind.i64.wrap (lastS s + 1) = lastS s + 1 := wrap64 (by omega) (by omega)
  have x8 : l[i].toNat < 8 := by omega
  have ar : ∀ off, arA 8 1 (.ptr (P.length + 1) 1 0 off) (.int .i64 l[i]) = some (.ptr (P.length + 1) 1 0 (off + l[i].toNat)) := fun off => arA_int (by omega) (by omega)
  simp -implicitDefEqProofs only [ZS, Nat.reduceAdd]
  rw [if_pos (by omega), ix_ints hlt, Option.bind_some, ld_i, Option.bind_some, confHasK _ _ hmm, List.drop_eq_getElem_cons hlt]
  cases hh : hasF mm l[i] with
  | true =>
   simp -implicitDefEqProofs only [ZS, Nat.reduceAdd, add_int, e3]
   rw [newF_has hh]
   exact change_J7 mm l hl hmm b hb P R k (i + 1) s (by omega) h hls he ho
  | false =>
   have h1 := h.setMtch l[i].toNat 0 (Int.le_refl _) (by omega)
   have h2 := h1.setNext l[i].toNat (lastS s + 1) (by omega) (by omega)
   have w1 := h1.w.n
   simp -implicitDefEqProofs only [ZS, Nat.reduceAdd, lastK h.toSOk, add_int, e4, ar, ss_mtch h.w.n x8, ss_next w1 x8, e3]
   rw [newF_not (by rw [hh]; decide)]
   exact change_J7 mm l hl hmm b hb P R k (i + 1) _ (by omega) h2 hls he ho
theorem stepC_may {a b : List Int} (h : stepC a b = true) : mayL a = true ∧ mayL b = true := by
 unfold stepC at h
 split at h <;> (simp only [stepQ, Bool.and_eq_true] at h)
 · exact ⟨h.2.1, h.1⟩
 · exact ⟨h.1, h.2.1⟩
set_option maxHeartbeats 1000000 in
theorem change_m {s : Stp} (h : SFu s) (l : List Int) (hl : l.length < 2^60) (ho : s.out.length < 800000) : Meth n_raft_stepper_change [ints l] s (.tup []) (changeF s l) := fun P R => by
 refine raft_stepper_change_of ?_
 dsimp only
 have hmo : most = 1152921504606846976 := rfl
 have ml := h.ml
 have hhc : hasL s.n.log s.n.commit = true := hasL_iff.2 ⟨h.c0, h.c1⟩
 have stepK : ∀ (H : List AObj) (K : AV → List AObj → List Nat → Option R3), callK (EV C) false n_conf_Step [ints (memsS s), ints l] H K = K (.bool (stepC (memsS s) l)) H [] := fun H K => callK_ok (by simp [goodL]) (confStep_ok _ _ ml (by omega))
 simp -implicitDefEqProofs only [ZS, Nat.reduceAdd, membersK h.toSOk, TermD h.toSOk _ hhc]
 unfold changeF
 by_cases h2 : s.n.role = 2
 · rw [if_pos h2, show decide (s.n.role = 2) = true from decide_eq_true h2]
   simp -implicitDefEqProofs only [ZS, Nat.reduceAdd, stepK]
   cases hs : stepC (memsS s) l with
   | false =>
    simp -implicitDefEqProofs only [ZS, Nat.reduceAdd, Bool.false_eq_true, if_false]
    exact endB_n0 rfl
   | true =>
    have hml := (stepC_may hs).2
    simp -implicitDefEqProofs only [ZS, Nat.reduceAdd, if_true, confHasK _ _ ml]
    cases hh : hasF (memsS s) s.n.id with
    | false =>
     simp -implicitDefEqProofs only [ZS, Nat.reduceAdd, Bool.false_eq_true, if_false]
     exact endB_n0 rfl
    | true =>
     simp -implicitDefEqProofs only [ZS, Nat.reduceAdd, if_true, lastK h.toSOk]
     by_cases hls : most ≤ lastS s
     · rw [if_pos hls, show ∀ a b : Option R3, (if 1152921504606846976 ≤ lastS s then a else b) = a from fun a b => if_pos hls]
       exact endB_n0 rfl
     · rw [if_neg hls, show ∀ a b : Option R3, (if 1152921504606846976 ≤ lastS s then a else b) = b from fun a b => if_neg hls]
       by_cases ht : termL s.n.log s.n.commit = s.n.term
       · rw [if_pos ht, show decide (termL s.n.log s.n.commit = s.n.term) = true from decide_eq_true ht]
         simp -implicitDefEqProofs only [ZS, Nat.reduceAdd, pendingK h.toSGd]
         cases hp : pendF s with
         | true =>
          simp -implicitDefEqProofs only [ZS, Nat.reduceAdd, if_true]
          exact endB_n0 rfl
         | false =>
          have hby : EV C n_conf_Bytes [ints l] [] = some (.tup [bys (byL l), .nili], [], []) := by rw [confBytes_ok l hl, if_pos hml]
          simp -implicitDefEqProofs only [ZS, Nat.reduceAdd, Bool.false_eq_true, if_false, callK_ok (show goodL [ints l] = true from by simp [goodL]) hby, lenV_ints]
          rw [if_pos hml]
          have he : EOk s.n 2 (byL l) := by
           have ht0 := h.t0; have ht1 := h.t1; have hel := h.el
           have htr : 0 < s.n.term := by rcases h.tr with h | h <;> omega
           refine ⟨ht0, by omega, ht1, by decide, by decide, fun _ => ?_, ?_, by omega⟩
           · rw [ofB_byL (may_mem hml)]; exact hml
           · have := may_len hml; simp [byL]; omega
          have := change_J7 (memsS s) l hml ml (byL l) rfl P R l.length 0 s (by omega) h.toSGd (by omega) he ho
          rw [List.drop_zero] at this
          exact this
       · rw [if_neg ht, show decide (termL s.n.log s.n.commit = s.n.term) = false from decide_eq_false ht]
         simp -implicitDefEqProofs only [ZS, Nat.reduceAdd]
         exact endB_n0 rfl
 · rw [if_neg h2, show decide (s.n.role = 2) = false from decide_eq_false h2]
   simp -implicitDefEqProofs only [ZS, Nat.reduceAdd]
   exact endB_n0 rfl
theorem changeK {s : Stp} (h : SFu s) (l : List Int) (hl : l.length < 2^60) (ho : s.out.length < 800000) {β : Type} {P R : List AObj} {K : Kt β} : callK (EV C) false n_raft_stepper_change [.ptr (P.length + 1) 1 0 0, ints l] (hp P s R) K = K (.tup []) (hp P (changeF s l) R) [] := (change_m h l hl ho).call0 (by simp [goodL])
end Go.Pm
namespace Go.Pm
open Go.Proofs
set_option linter.unusedVariables false
set_option linter.unusedSimpArgs false
def validM (n : Nde) (m : Msg) : Bool := decide (m.to = n.id) && (!decide (m.frm = n.id) && (inF m.frm 1 7 && (inF m.term 1 1152921504606846976 && (inF m.index 0 1152921504606846976 && (inF m.lterm 0 1152921504606846976 && inF m.commit 0 1152921504606846976)))))
def newT (s : Stp) (m : Msg) : Stp := { s with n := { s.n with term := m.term, voted := 0, leader := 0, role := 0, votes := [] }, vn := true }
def wonF (s : Stp) : Stp := if mostF (memsS s) s.n.votes = true then leadsF s else s
def voteF (s : Stp) (m : Msg) : Stp := if hasF s.n.votes m.frm = true then s else { s with n := { s.n with votes := s.n.votes ++ [m.frm] }, vn := false }
def hearF (s : Stp) (m : Msg) : Stp :=
 if m.term < s.n.term then
  (if m.kind = 1 then sendF s m.frm (msg0 2)
  else if m.kind = 3 then sendF s m.frm { msg0 4 with index := lastS s }
  else if m.kind = 5 then sendF s m.frm { msg0 4 with index := lastS s }
  else s)
 else if m.kind = 1 then askF s m
 else if m.kind = 2 then (if s.n.role = 1 then (if m.ok = true then wonF (voteF s m) else s) else s)
 else if m.kind = 3 then appF' s m
 else if m.kind = 5 then snapF s m
 else if m.kind = 4 then (if s.n.role = 2 then (if hasF (memsS s) m.frm = true then ackF s m else s) else s)
 else s
def msgF (s : Stp) (m : Msg) : Stp := if validM s.n m = true then hearF (if s.n.term < m.term then newT s m else s) m else s
theorem mostD {s : Stp} (w : s.wf) (l : List Int) (hl : l.length ≤ 2^60) (hv : s.n.votes.length ≤ 2^60) {H : List AObj} : callD (EV C) n_conf_Most [ints l, s.vav] H = some (.bool (mostF l s.n.votes)) :=
 callD_nil (by simp only [killsL, kills_good _ (good_ints l), kills_vav, List.append_nil]) (by simp only [frzL, frz_good _ _ (good_ints l), frz_vav w, Option.bind_some, Option.map_some]) (by simp [goodL]) (most_ok l s.n.votes hl hv)
theorem containsD {s : Stp} (w : s.wf) (x : Int) (hv : s.n.votes.length ≤ 2^60) {H : List AObj} : callD (EV C) n_Contains_int [s.vav, .int .i64 x] H = some (.bool (hasF s.n.votes x)) :=
 callD_nil (by simp only [killsL, kills, kills_vav, List.append_nil]) (by simp only [frzL, frz_vav w, frz, Option.bind_some, Option.map_some]) (by simp [goodL, AV.good]) (contains_ok s.n.votes x hv)
theorem inD (a b c : Int) (H : List AObj) : callD (EV C) n_raft_in [.int .i64 a, .int .i64 b, .int .i64 c] H = some (.bool (inF a b c)) := callD_ok (by simp [goodL, AV.good]) (in_ok a b c)
theorem msg_S19 {s : Stp} (h : SGd s) (he : EOk s.n 0 []) (hv : s.n.votes.length ≤ 2^60) (ho : s.out.length < 800000) (P R X : List AObj) :
  raft_stepper_msg_S19 (P.length + 2 + R.length) (.ptr (P.length + 1) 1 0 0) (.ptr (P.length + 1) 1 0 0) (hp P s (R ++ X)) [] = some (.tup [], hp P (wonF s) R, []) := by
 refine raft_stepper_msg_S19_of ?_
 simp -implicitDefEqProofs only [ZS, Nat.reduceAdd, membersK h.toSOk, drawK_True, mostD h.w _ h.ml hv]
 unfold wonF
 cases hm : mostF (memsS s) s.n.votes with
 | true =>
  simp -implicitDefEqProofs only [ZS, Nat.reduceAdd, if_true, leadsK h he ho]
  exact endB_n1 X rfl
 | false =>
  simp -implicitDefEqProofs only [ZS, Nat.reduceAdd, Bool.false_eq_true, if_false]
  exact endB_n1 X rfl
set_option maxHeartbeats 2000000 in
theorem msg_S5 {s : Stp} (h : SFu s) {m : Msg} (wm : m.wf) (f0 : 1 ≤ m.frm) (f7 : m.frm ≤ 7) (mt : 1 ≤ m.term) (hmt : m.term ≤ s.n.term) (hi0 : 0 ≤ m.index) (hi1 : m.index ≤ most) (he : m.es.length < 2^39) (hd : lightP m.es) (hml : m.mems.length < 2^40) (ho : s.out.length < 700000) (P R : List AObj) :
   raft_stepper_msg_S5 (P.length + 2 + R.length) (.ptr (P.length + 1) 1 0 0) (.ptr (P.length + 2 + R.length) 1 0 0) (.ptr (P.length + 1) 1 0 0) (hp P s (R ++ [mrow m])) [] = some (.tup [], hp P (hearF s m) R, []) := by
 refine raft_stepper_msg_S5_of ?_
 unfold hearF
 have hvl := h.vl
 have ht0 := h.t0; have ht1 := h.t1; have hel := h.el
 simp -implicitDefEqProofs only [ZS, Nat.reduceAdd, ZK]
 by_cases hold : m.term < s.n.term
 · rw [if_pos hold, if_pos hold]
   by_cases k1 : m.kind = 1
   · rw [if_pos k1, if_pos k1, fsend (m := msg0 2) h.w (tail0_wf rfl) (by omega) rfl (fun H => rfl) rfl]
     exact endB_n1 [_] rfl
   · rw [if_neg k1, if_neg k1]
     by_cases k3 : m.kind = 3
     · rw [if_pos k3, if_pos k3]
       simp -implicitDefEqProofs only [ZS, Nat.reduceAdd, ZK, lastK h.toSOk, drawK_True]
       rw [fsend (m := { msg0 4 with index := lastS s }) h.w (tail0_wf rfl) (by omega) rfl (fun H => rfl) rfl]
       exact endB_n1 [_] rfl
     · rw [if_neg k3, if_neg k3]
       by_cases k5 : m.kind = 5
       · rw [if_pos k5, if_pos k5]
         simp -implicitDefEqProofs only [ZS, Nat.reduceAdd, ZK, lastK h.toSOk, drawK_True]
         rw [fsend (m := { msg0 4 with index := lastS s }) h.w (tail0_wf rfl) (by omega) rfl (fun H => rfl) rfl]
         exact endB_n1 [_] rfl
       · rw [if_neg k5, if_neg k5]
         exact endB_n1 [_] rfl
 · rw [if_neg hold, if_neg hold]
   have hE : EOk s.n 0 [] := ⟨ht0, by omega, ht1, by decide, by decide, fun h => absurd h (by decide), by decide, by omega⟩
   by_cases k1 : m.kind = 1
   · rw [if_pos k1, if_pos k1]
     simp -implicitDefEqProofs only [lm_all wm, Option.bind_some]
     rw [askK h.toSGd wm (by omega)]
     exact endB_n1 [_] rfl
   · rw [if_neg k1, if_neg k1]
     by_cases k2 : m.kind = 2
     · rw [if_pos k2, if_pos k2]
       by_cases r1 : s.n.role = 1
       · rw [if_pos r1, if_pos r1]
         cases hok : m.ok with
         | false =>
           simp -implicitDefEqProofs only [ZS, Nat.reduceAdd, Bool.false_eq_true, if_false]
           exact endB_n1 [_] rfl
         | true =>
           simp -implicitDefEqProofs only [ZS, Nat.reduceAdd, ZK, if_true, containsD h.w m.frm (show s.n.votes.length ≤ 2^60 by omega)]
           unfold voteF
           cases hh : hasF s.n.votes m.frm with
           | true =>
             simp -implicitDefEqProofs only [ZS, Nat.reduceAdd, if_true]
             exact msg_S19 h.toSGd hE (by omega) (by omega) P R [mrow m]
           | false =>
             simp -implicitDefEqProofs only [ZS, Nat.reduceAdd, Bool.false_eq_true, if_false]
             obtain ⟨a, X, h1, h2⟩ := clone_votes h.w (by omega) (hp P s (R ++ [mrow m]))
             rw [callK_raw h1]
             have hlit : ∀ (x : Int) (H : List AObj), litD 1 1 (.int .i64 0) [(0, .int .i64 x)] H = some (ints [x]) := fun x H => rfl
             have l1 : loadA false 1 (.ptr (P.length + 2 + R.length) 1 0 1) (hp P s (R ++ [mrow m]) ++ X) = some (.int .i64 m.frm) := by
               rw [hp_app, List.append_assoc, List.singleton_append]; exact lm_frm
             simp -implicitDefEqProofs only [l1, Option.bind_some, lm_frm, drawK_True, hlit]
             rw [show ints [m.frm] = .lst [i64 m.frm] from rfl, cl_app h2 rfl (goodL_i64 _) rfl rfl (by decide) (by decide) (by decide) (by simp; omega)]
             have e : AV.lst (s.n.votes.map i64 ++ [i64 m.frm]) = ints (s.n.votes ++ [m.frm]) := by simp [ints]
             rw [e]
             simp -implicitDefEqProofs only [ZS, Nat.reduceAdd]
             have hg : SGd { s with n := { s.n with votes := s.n.votes ++ [m.frm] }, vn := false } := ⟨⟨⟨⟨h.w.n.ln, h.w.n.lm⟩, (fun h => by cases h), h.w.en, h.w.out⟩, h.lg, h.sl⟩, h.id0, h.id1, h.nx, h.mt, h.c0, h.c1⟩
             exact msg_S19 hg hE (by simp; omega) (by show s.out.length < _; omega) P R [mrow m, .dead]
       · rw [if_neg r1, if_neg r1]
         exact endB_n1 [_] rfl
     · rw [if_neg k2, if_neg k2]
       by_cases k3 : m.kind = 3
       · rw [if_pos k3, if_pos k3]
         simp -implicitDefEqProofs only [lm_all wm, Option.bind_some]
         rw [appMK h.toSGd wm hi0 hi1 he (by omega) hd (by omega)]
         exact endB_n1 [_] rfl
       · rw [if_neg k3, if_neg k3]
         by_cases k5 : m.kind = 5
         · rw [if_pos k5, if_pos k5]
           simp -implicitDefEqProofs only [lm_all wm, Option.bind_some]
           rw [snapK h.toSGd wm hml (by omega)]
           exact endB_n1 [_] rfl
         · rw [if_neg k5, if_neg k5]
           by_cases k4 : m.kind = 4
           · rw [if_pos k4, if_pos k4]
             by_cases r2 : s.n.role = 2
             · rw [if_pos r2, if_pos r2]
               simp -implicitDefEqProofs only [ZS, Nat.reduceAdd, ZK, membersK h.toSOk, drawK_True, callD_ok (show goodL [ints (memsS s), AV.int .i64 m.frm] = true from by simp [goodL, AV.good]) (confHas_ok _ _ h.ml)]
               cases hh : hasF (memsS s) m.frm with
               | true =>
                simp -implicitDefEqProofs only [ZS, Nat.reduceAdd, if_true, lm_all wm]
                rw [ackK h.toSGd wm f0 f7 hi0 hi1 (by omega)]
                exact endB_n1 [_] rfl
               | false =>
                simp -implicitDefEqProofs only [ZS, Nat.reduceAdd, Bool.false_eq_true, if_false]
                exact endB_n1 [_] rfl
             · rw [if_neg r2, if_neg r2]
               exact endB_n1 [_] rfl
           · rw [if_neg k4, if_neg k4]
             exact endB_n1 [_] rfl
theorem inF_iff {a b c : Int} : inF a b c = true ↔ b ≤ a ∧ a ≤ c := by simp [inF]
theorem newT_fu {s : Stp} (h : SFu s) {m : Msg} (ht : s.n.term < m.term) (h1 : m.term ≤ most) : SFu (newT s m) :=
 { toSGd := ⟨⟨⟨⟨h.w.n.ln, h.w.n.lm⟩, (fun _ => rfl), h.w.en, h.w.out⟩, h.lg, h.sl⟩, h.id0, h.id1, h.nx, h.mt, h.c0, h.c1⟩
   t0 := by have := h.t0; show termL s.n.log (lastL s.n.log) ≤ m.term; omega
   t00 := by have := h.t00; show 0 ≤ m.term; omega
   t1 := h1
   k0 := h.k0
   k1 := h.k1
   vl := by show ([] : List Int).length < 2^39; simp
   el := h.el
   tr := .inr rfl }
set_option maxHeartbeats 2000000 in
theorem msg_m {s : Stp} (h : SFu s) {m : Msg} (wm : m.wf) (he : m.es.length < 2^39) (hd : lightP m.es) (hml : m.mems.length < 2^40) (ho : s.out.length < 700000) : Meth n_raft_stepper_msg [m.av] s (.tup []) (msgF s m) := fun P R => by
 refine raft_stepper_msg_of ?_
 dsimp only
 have hmo : most = 1152921504606846976 := rfl
 rw [new_m wm]
 unfold msgF validM
 simp -implicitDefEqProofs only [ZS, Nat.reduceAdd, ZK, inD]
 by_cases h1 : m.to = s.n.id
 · rw [show decide (m.to = s.n.id) = true from decide_eq_true h1]
   simp -implicitDefEqProofs only [ZS, Nat.reduceAdd, Bool.true_and]
   by_cases h2 : m.frm = s.n.id
   · rw [if_pos h2, show decide (m.frm = s.n.id) = true from decide_eq_true h2]
     simp only [Bool.not_true, Bool.false_and, Bool.false_eq_true, if_false]
     exact endB_n1 [_] rfl
   · rw [if_neg h2, show decide (m.frm = s.n.id) = false from decide_eq_false h2]
     simp only [Bool.not_false, Bool.true_and]
     cases h3 : inF m.frm 1 7 with
     | false =>
      simp -implicitDefEqProofs only [ZS, Nat.reduceAdd, Bool.false_and, Bool.false_eq_true, if_false]
      exact endB_n1 [_] rfl
     | true =>
      simp -implicitDefEqProofs only [ZS, Nat.reduceAdd, Bool.true_and]
      cases h4 : inF m.term 1 1152921504606846976 with
      | false =>
       simp -implicitDefEqProofs only [ZS, Nat.reduceAdd, Bool.false_and, Bool.false_eq_true, if_false]
       exact endB_n1 [_] rfl
      | true =>
       simp -implicitDefEqProofs only [ZS, Nat.reduceAdd, Bool.true_and]
       cases h5 : inF m.index 0 1152921504606846976 with
       | false =>
        simp -implicitDefEqProofs only [ZS, Nat.reduceAdd, Bool.false_and, Bool.false_eq_true, if_false]
        exact endB_n1 [_] rfl
       | true =>
        simp -implicitDefEqProofs only [ZS, Nat.reduceAdd, Bool.true_and]
        cases h6 : inF m.lterm 0 1152921504606846976 with
        | false =>
         simp -implicitDefEqProofs only [ZS, Nat.reduceAdd, Bool.false_and, Bool.false_eq_true, if_false]
         exact endB_n1 [_] rfl
        | true =>
         simp -implicitDefEqProofs only [ZS, Nat.reduceAdd, Bool.true_and]
         cases h7 : inF m.commit 0 1152921504606846976 with
         | false =>
          simp -implicitDefEqProofs only [ZS, Nat.reduceAdd, Bool.false_eq_true, if_false]
          exact endB_n1 [_] rfl
         | true =>
          simp -implicitDefEqProofs only [ZS, Nat.reduceAdd, ZK, if_true]
          have i3 := inF_iff.1 h3; have i4 := inF_iff.1 h4; have i5 := inF_iff.1 h5
          by_cases ht : s.n.term < m.term
          · rw [if_pos ht, if_pos ht]
            exact msg_S5 (newT_fu h ht (by omega)) wm i3.1 i3.2 i4.1 (show m.term ≤ m.term from Int.le_refl _) i5.1 (by omega) he hd hml ho P R
          · rw [if_neg ht, if_neg ht]
            exact msg_S5 h wm i3.1 i3.2 i4.1 (by omega) i5.1 (by omega) he hd hml ho P R
 · rw [show decide (m.to = s.n.id) = false from decide_eq_false h1]
   simp -implicitDefEqProofs only [ZS, Nat.reduceAdd, Bool.false_and, Bool.false_eq_true, if_false]
   exact endB_n1 [_] rfl
theorem msgK {s : Stp} (h : SFu s) {m : Msg} (wm : m.wf) (he : m.es.length < 2^39) (hd : lightP m.es) (hml : m.mems.length < 2^40) (ho : s.out.length < 700000) {β : Type} {P R : List AObj} {K : Kt β} : callK (EV C) false n_raft_stepper_msg [.ptr (P.length + 1) 1 0 0, m.av] (hp P s R) K = K (.tup []) (hp P (msgF s m) R) [] := (msg_m h wm he hd hml ho).call0 (by simp [goodL, Msg.avgood wm])
end Go.Pm
namespace Go.Pm
open Go.Proofs
set_option linter.unusedVariables false
set_option linter.unusedSimpArgs false
structure Inp where
 kind : Int
 draw : Int
 index : Int
 msg : Msg
 data : List UInt8
 mems : List Int
def Inp.cs (x : Inp) : List AV := [.int .i64 x.kind, .int .i64 x.draw, .int .i64 x.index] ++ (x.msg.cs ++ [bys x.data, ints x.mems])
def Inp.av (x : Inp) : AV := .agg x.cs
def Inp.row (x : Inp) : AObj := .row 22 [x.av]
theorem Inp.cslen {x : Inp} (w : x.msg.wf) : x.cs.length = 22 := by simp [Inp.cs, Msg.cslen w]
theorem Inp.csone {x : Inp} (w : x.msg.wf) : x.cs.all AV.one = true := by
 unfold Inp.cs
 simp only [List.all_append, Msg.csone w]
 simp [AV.one, ints, bys]
theorem Inp.good {x : Inp} (w : x.msg.wf) : x.av.good = true := by
 have := Msg.avgood w
 unfold Msg.av at this
 simp only [AV.good] at this
 unfold Inp.av Inp.cs
 simp only [AV.good, goodL_append, this]
 simp [goodL, AV.good]
def zN : AV := .agg [(.int .i64 0), (.int .i64 0), (.int .i64 0), (.int .i64 0), (.int .i64 0), (.int .i64 0), (.int .i64 0), .nils, .nils, (.int .i64 0), .nils, (.int .i64 0), (.int .i64 0), (.int .i64 0), (.int .i64 0), (.int .i64 0), (.int .i64 0), (.int .i64 0), (.int .i64 0), (.int .i64 0), (.int .i64 0), (.int .i64 0), (.int .i64 0), (.int .i64 0), (.int .i64 0), (.int .i64 0), (.int .i64 0), (.int .i64 0), (.int .i64 0)]
def noNde : Nde := ⟨0, 0, 0, 0, 0, noLog, 0, [], List.replicate 8 0, List.replicate 8 0, 0, 0⟩
def P3 (n : Nde) (x : Inp) (z : AV) : List AObj := [n.row, x.row, .row 29 [z]]
def Stp.nav (s : Stp) : AV := .agg (s.hd ++ (s.n.next.map i64 ++ (s.n.mtch.map i64 ++ [.int .i64 s.n.ticks, .int .i64 s.n.timeout])))
theorem nav_len {s : Stp} (w : s.n.wf) : s.nav.cells.length = 29 := by
 show (s.hd ++ _).length = 29
 simp [Stp.hd, w.ln, w.lm]
theorem nav_one {s : Stp} : s.nav.cells.all AV.one = true := by
 show (s.hd ++ _).all AV.one = true
 simp only [List.all_append, one_i64, Stp.hd, List.all_cons, List.all_nil, one_eav, one_vav]
 rfl
theorem bel_vav {s : Stp} (m : Nat) : s.vav.bel m = true := by
 unfold Stp.vav nilv; split
 · rfl
 · exact bel_good m _ (good_ints _)
theorem belL_app (m : Nat) (a b : List AV) : belL m (a ++ b) = (belL m a && belL m b) := by
 induction a with
 | nil => rfl
 | cons x a ih => simp only [List.cons_append, belL, ih, Bool.and_assoc]
theorem nav_bel {s : Stp} (m : Nat) : belL m s.nav.cells = true := by
 show belL m (s.hd ++ _) = true
 simp only [belL_app, belL_good m _ (goodL_i64 _)]
 simp [Stp.hd, belL, AV.bel, bel_eav, bel_vav, bel_good m _ (good_ints _)]
theorem frzL_app (H : List AObj) {a b a' b' : List AV} (h1 : frzL H a = some a') (h2 : frzL H b = some b') : frzL H (a ++ b) = some (a' ++ b') := by
 induction a generalizing a' with
 | nil => simp only [frzL, Option.some.injEq] at h1; subst h1; exact h2
 | cons x a ih =>
  simp only [frzL, Option.bind_eq_some_iff, Option.map_eq_some_iff] at h1
  obtain ⟨c, hc, ds, hds, rfl⟩ := h1
  exact frzL_cons hc (ih hds)
theorem frz_nav {s : Stp} (w : s.wf) (H : List AObj) : frz H s.nav = some s.n.av := by
 have h1 : frzL H s.hd = some [.int .i64 s.n.id, .int .i64 s.n.term, .int .i64 s.n.voted, .int .i64 s.n.role, .int .i64 s.n.leader, .int .i64 s.n.log.index, .int .i64 s.n.log.term, ints s.n.log.mems, ents s.n.log.es, .int .i64 s.n.commit, ints s.n.votes] := by
  unfold Stp.hd
  simp only [frzL, frz_eav w, frz_vav w, frz_good H _ (good_ints _), Option.bind_some, Option.map_some]
  rfl
 have h2 : frzL H (s.n.next.map i64 ++ (s.n.mtch.map i64 ++ [.int .i64 s.n.ticks, .int .i64 s.n.timeout])) = some (s.n.next.map i64 ++ (s.n.mtch.map i64 ++ [.int .i64 s.n.ticks, .int .i64 s.n.timeout])) := frzL_good H _ (by simp only [goodL_append, goodL_i64]; simp [goodL, AV.good])
 unfold Stp.nav
 rw [frz_agg (frzL_app H h1 h2)]
 rfl
section
variable {n : Nde} {x : Inp} {z : AV} {s : Stp} {R : List AObj}
theorem l4_all (w : s.n.wf) : loadA true 29 (.ptr 4 1 0 0) (hp (P3 n x z) s R) = some s.nav := by
 have h : (hp (P3 n x z) s R)[4]? = some (srow 3 s) := hp_S (P3 n x z) s R
 rw [ld_aggp (cs := s.cs 3) h (by simp [Stp.cs, Stp.hd, w.ln, w.lm])]
 have e : s.cs 3 = (s.hd ++ (s.n.next.map i64 ++ (s.n.mtch.map i64 ++ [.int .i64 s.n.ticks, .int .i64 s.n.timeout]))) ++ [.slc 3 0 s.out.length s.out.length, .int .i64 s.num] := by simp [Stp.cs]
 rw [List.drop_zero, e, List.take_left' (by simp [Stp.hd, w.ln, w.lm])]
 rfl
theorem l4_out (w : s.n.wf) : loadA false 1 (.ptr 4 1 0 29) (hp (P3 n x z) s R) = some (.slc 3 0 s.out.length s.out.length) := ls_out (P := P3 n x z) w
theorem l4_num (w : s.n.wf) : loadA false 1 (.ptr 4 1 0 30) (hp (P3 n x z) s R) = some (.int .i64 s.num) := ls_num (P := P3 n x z) w
theorem l2_all (w : s.n.wf) : loadA true 29 (.ptr 2 1 0 0) (hp (P3 n x s.nav) s R) = some s.nav := by
 have h : (hp (P3 n x s.nav) s R)[2]? = some (.row 29 [s.nav]) := rfl
 rw [ld_aggp (cs := s.nav.cells) h (by rw [List.drop_zero, nav_len w]; exact Nat.le_refl _), List.drop_zero, List.take_of_length_le (by rw [nav_len w]; exact Nat.le_refl _)]
 rfl
theorem s2_all (w : s.n.wf) (zc : List AV) (hz : zc.length = 29) {β : Type} {K : List AObj → List Nat → Option β} : stoK 29 (.ptr 2 1 0 0) s.nav (hp (P3 n x (.agg zc)) s R) K = K (hp (P3 n x s.nav) s R) [] := by
 have h : (hp (P3 n x (.agg zc)) s R)[2]? = some (.row 29 [.agg zc]) := rfl
 rw [sto_row (n := 29) h (nav_len w) nav_one (nav_bel _) (by omega)]
 have e : zc.take 0 ++ s.nav.cells ++ zc.drop (0 + 29) = s.nav.cells := by
  rw [List.take_zero, List.nil_append, List.drop_of_length_le (by omega), List.append_nil]
 rw [e]; rfl
/-- what a step answers -/
def Stp.res (s : Stp) : AV := .tup [s.n.av, .lst (s.out.map Msg.av), .int .i64 s.num, .nili]
theorem goodL_out (w : s.wf) : goodL (s.out.map Msg.av) = true := goodL_all.2 fun v hv => by
 obtain ⟨m, hm, rfl⟩ := List.mem_map.1 hv
 exact Msg.avgood (w.out m hm)
theorem res_end (w : s.wf) : endB false false 0 (.tup [s.nav, .slc 3 0 s.out.length s.out.length, .int .i64 s.num, .nili]) (hp (P3 n x s.nav) s R) [] = some (s.res, [], []) := by
 have ho : frz (hp (P3 n x s.nav) s R) (.slc 3 0 s.out.length s.out.length) = some (.lst (s.out.map Msg.av)) := frz_vro (z := 17) (hp_O (P3 n x s.nav) s R) (by simp) (goodL_out w)
 refine endB_frz (frz_tup (frzL_cons (frz_nav w _) (frzL_cons ho (frzL_cons rfl (frzL_cons rfl rfl))))) ?_
 simp only [Stp.res, AV.good, goodL, Nde.good, goodL_out w, Bool.and_self]
end
/-- what it does in a step -/
def Stp.new (n : Nde) : Stp := ⟨n, false, false, [], 0⟩
def compF (s : Stp) (i : Int) : Stp := { s with n := { s.n with log := compactL s.n.log i }, num := i, en := false }
def stepF (n : Nde) (x : Inp) : Stp :=
 let s := Stp.new n
 if x.kind = 0 then tickF s x.draw
 else if x.kind = 1 then msgF s x.msg
 else if x.kind = 2 then (if n.role = 2 then (if (x.data.length : Int) ≤ 4096 then (if lastS s < most then proposeF s 1 x.data else s) else s) else s)
 else if x.kind = 3 then changeF s x.mems
 else if x.kind = 4 then (if n.log.index < x.index then (if x.index ≤ n.commit then compF s x.index else s) else s)
 else s
def stepA (n : Nde) (x : Inp) : AV := if soundN n = true then (stepF n x).res else .tup [noNde.av, .lst [], .int .i64 0, codeA 3]
theorem findIdx_app {l : List AV} {v : AV} {r : List AV} (h : l.all (fun a => !isNils a) = true) (hv : isNils v = true) : (l ++ v :: r).findIdx? isNils = some l.length := by
 induction l with
 | nil => simp [List.findIdx?_cons, hv]
 | cons a l ih =>
  simp only [List.all_cons, Bool.and_eq_true, Bool.not_eq_true'] at h
  simp only [List.cons_append, List.findIdx?_cons, h.1, Bool.false_eq_true, if_false, List.length_cons]
  rw [ih (by simpa using h.2)]; rfl
theorem nonil_i64 (l : List Int) : (l.map i64).all (fun a => !isNils a) = true := by
 rw [List.all_map]; exact List.all_eq_true.2 fun x _ => rfl
end Go.Pm
namespace Go.Pm
open Go.Proofs
set_option linter.unusedVariables false
set_option linter.unusedSimpArgs false
theorem allF_wf {s : Stp} (h : s.wf) : (allF s).wf := others_wf (bringM s.n) (bringM_wf _) _ s h
theorem leadsF_wf {s : Stp} (h : SGd s) (he : EOk s.n 0 []) : (leadsF s).wf := allF_wf (countsF_gd (addF_gd (s := resetF s) (resetF_gd h) he)).w
theorem standsF_wf {s : Stp} (h : SGd s) (d : Int) (ht : termL s.n.log (lastL s.n.log) ≤ s.n.term) (h0 : 0 ≤ s.n.term) (h1 : s.n.term < most) (hl : s.n.log.es.length + 1 < 2^40) : (standsF s d).wf := by
 have hc := candF_gd h d
 unfold standsF
 dsimp only
 split
 · refine leadsF_wf hc ⟨?_, ?_, ?_, by decide, by decide, fun h => absurd h (by decide), by decide, hl⟩
   · show termL s.n.log (lastL s.n.log) ≤ s.n.term + 1; omega
   · show 1 ≤ s.n.term + 1; omega
   · show s.n.term + 1 ≤ most; omega
 · exact others_wf _ (fun _ => askM_wf _) _ _ hc.w
theorem tickF_wf {s : Stp} (h : SFu s) (d : Int) : (tickF s d).wf := by
 have hg : SGd (ticksF s) := h.toSGd.ticks _
 unfold tickF
 dsimp only
 split
 · split
   · exact allF_wf (hg.ticks 0).w
   · exact hg.w
 · split
   · split
     · split
       · exact standsF_wf hg d h.t0 h.t00 (by assumption) (by have := h.el; show s.n.log.es.length + 1 < _; omega)
       · exact hg.w
     · exact hg.w
   · exact hg.w
theorem proposeF_wf {s : Stp} (h : SGd s) {kind : Int} {data : List UInt8} (he : EOk s.n kind data) : (proposeF s kind data).wf := allF_wf (countsF_gd (numF_gd (addF_gd h he))).w
theorem newF_gd (m : List Int) : ∀ (l : List Int) (s : Stp), SGd s → lastS s < most → SGd (newF m s l) ∧ (newF m s l).n.log = s.n.log ∧ (newF m s l).n.term = s.n.term ∧ (newF m s l).out = s.out
 | [], s, h, _ => ⟨h, rfl, rfl, rfl⟩
 | x :: l, s, h, hl => by
  have hla := h.last
  by_cases hx : hasF m x = true
  · rw [newF_has hx]; exact newF_gd m l s h hl
  · rw [newF_not hx]
    have := newF_gd m l _ ((h.setMtch x.toNat 0 (Int.le_refl _) (by omega)).setNext x.toNat (lastS s + 1) (by omega) (by omega)) hl
    exact ⟨this.1, this.2.1, this.2.2.1, this.2.2.2⟩
theorem eok_change {s : Stp} (h : SFu s) (hr : s.n.role = 2) {l : List Int} (hml : mayL l = true) : EOk s.n 2 (byL l) := by
 have ht0 := h.t0; have ht1 := h.t1; have hel := h.el
 have htr : 0 < s.n.term := by rcases h.tr with h | h <;> omega
 refine ⟨ht0, by omega, ht1, by decide, by decide, fun _ => ?_, ?_, by omega⟩
 · rw [ofB_byL (may_mem hml)]; exact hml
 · have := may_len hml; simp [byL]; omega
theorem changeF_wf {s : Stp} (h : SFu s) (l : List Int) : (changeF s l).wf := by
 unfold changeF
 split
 · rename_i hr
   split
   · split
     · split
       · exact h.w
       · rename_i hls
         split
         · split
           · exact h.w
           · split
             · rename_i hml
               have hn := newF_gd (memsS s) l s h.toSGd (by omega)
               refine proposeF_wf hn.1 ?_
               have he := eok_change h hr hml
               unfold EOk at he ⊢
               rw [hn.2.1, hn.2.2.1]
               exact he
             · exact h.w
         · exact h.w
     · exact h.w
   · exact h.w
 · exact h.w
theorem askF_wf {s : Stp} (h : s.wf) (m : Msg) : (askF s m).wf := by
 unfold askF
 dsimp only
 refine sendF_wf ?_ (tail0_wf rfl) _
 split
 · exact ⟨⟨h.n.ln, h.n.lm⟩, h.vn, h.en, h.out⟩
 · exact h
theorem appB_wf {f : Stp} (h : f.wf) (m : Msg) (p : Int) (e : List Ent) : (appB f m p e).wf := by
 unfold appB
 dsimp only
 split
 · split
   · exact h
   · split
     · exact h
     · refine sendF_wf ?_ (tail0_wf rfl) _
       exact ⟨⟨h.n.ln, h.n.lm⟩, h.vn, (fun h => by cases h), h.out⟩
 · exact h
theorem followF_wf {s : Stp} (h : s.wf) (frm : Int) : (followF s frm).wf := ⟨⟨h.n.ln, h.n.lm⟩, fun _ => rfl, h.en, h.out⟩
theorem appF_wf {s : Stp} (h : s.wf) (m : Msg) : (appF' s m).wf := by
 have hf := followF_wf h m.frm
 unfold appF'
 dsimp only
 split
 · exact h
 · split
   · exact appB_wf hf _ _ _
   · split
     · split
       · exact appB_wf hf _ _ _
       · exact sendF_wf hf (tail0_wf rfl) _
     · exact sendF_wf hf (tail0_wf rfl) _
theorem snapF_wf {s : Stp} (h : s.wf) (m : Msg) : (snapF s m).wf := by
 have hf := followF_wf h m.frm
 unfold snapF
 dsimp only
 split
 · exact h
 · split
   · split
     · exact h
     · split
       · exact sendF_wf hf (tail0_wf rfl) _
       · unfold snapE
         split
         · have hs : ({ followF s m.frm with n := { (followF s m.frm).n with log := snapL s.n m, commit := m.index }, en := !snapKeep s.n m } : Stp).wf := by
            refine ⟨⟨h.n.ln, h.n.lm⟩, fun _ => rfl, fun hk => ?_, h.out⟩
            show (snapL s.n m).es = []
            unfold snapL
            rw [if_neg (by simpa using hk)]
           have := sendF_wf (m := { msg0 4 with ok := true, index := m.index }) hs (tail0_wf rfl) m.frm
           exact ⟨this.n, this.vn, this.en, this.out⟩
         · exact hf
   · exact h
theorem ackF_wf {s : Stp} (h : SGd s) {m : Msg} (h0 : 1 ≤ m.frm) (h7 : m.frm ≤ 7) (hi0 : 0 ≤ m.index) (hi1 : m.index ≤ most) : (ackF s m).wf := by
 have h8 : m.frm.toNat < 8 := by omega
 unfold ackF
 dsimp only
 split
 · split
   · exact h.w
   · have hc := countsF_gd (fwdF_gd (gotF_gd h m h8 hi0 hi1) m h8)
     split
     · split
       · exact sendF_wf hc.w (bringM_wf _ _) _
       · exact hc.w
     · exact hc.w
 · exact sendF_wf (backF_gd h m (by omega) (by omega)).w (bringM_wf _ _) _
theorem voteF_gd {s : Stp} (h : SGd s) (m : Msg) : SGd (voteF s m) := by
 unfold voteF
 split
 · exact h
 · exact ⟨⟨⟨⟨h.w.n.ln, h.w.n.lm⟩, (fun h => by cases h), h.w.en, h.w.out⟩, h.lg, h.sl⟩, h.id0, h.id1, h.nx, h.mt, h.c0, h.c1⟩
theorem voteF_n (s : Stp) (m : Msg) : (voteF s m).n.log = s.n.log ∧ (voteF s m).n.term = s.n.term := by
 unfold voteF; split <;> exact ⟨rfl, rfl⟩
theorem hearF_wf {s : Stp} (h : SFu s) {m : Msg} (f0 : 1 ≤ m.frm) (f7 : m.frm ≤ 7) (mt : 1 ≤ m.term) (hmt : m.term ≤ s.n.term) (hi0 : 0 ≤ m.index) (hi1 : m.index ≤ most) : (hearF s m).wf := by
 have ht0 := h.t0; have ht1 := h.t1; have hel := h.el
 unfold hearF
 split
 · split
   · exact sendF_wf h.w (tail0_wf rfl) _
   · split
     · exact sendF_wf h.w (tail0_wf rfl) _
     · split
       · exact sendF_wf h.w (tail0_wf rfl) _
       · exact h.w
 · split
   · exact askF_wf h.w m
   · split
     · split
       · split
         · have hv := voteF_gd h.toSGd m
           have hvn := voteF_n s m
           unfold wonF
           split
           · refine leadsF_wf hv ?_
             unfold EOk
             rw [hvn.1, hvn.2]
             exact ⟨ht0, by omega, ht1, by decide, by decide, fun h => absurd h (by decide), by decide, by omega⟩
           · exact hv.w
         · exact h.w
       · exact h.w
     · split
       · exact appF_wf h.w m
       · split
         · exact snapF_wf h.w m
         · split
           · split
             · split
               · exact ackF_wf h.toSGd f0 f7 hi0 hi1
               · exact h.w
             · exact h.w
           · exact h.w
theorem msgF_wf {s : Stp} (h : SFu s) (m : Msg) : (msgF s m).wf := by
 have hmo : most = 1152921504606846976 := rfl
 unfold msgF
 split
 · rename_i hv
   simp only [validM, Bool.and_eq_true, inF_iff] at hv
   have ht := h.t1
   split
   · exact hearF_wf (newT_fu h (by assumption) (by omega)) hv.2.2.1.1 hv.2.2.1.2 hv.2.2.2.1.1 (Int.le_refl _) hv.2.2.2.2.1.1 (by omega)
   · exact hearF_wf h hv.2.2.1.1 hv.2.2.1.2 hv.2.2.2.1.1 (by omega) hv.2.2.2.2.1.1 (by omega)
 · exact h.w
structure StepIn (n : Nde) (x : Inp) : Prop where
 nw : n.wf
 m : x.msg.wf
 lg : LgOk n.log
 hv : n.votes.length < 2^39
 hes : n.log.es.length + 1 < 2^39
 he : x.msg.es.length < 2^39
 hd : lightP x.msg.es
 hml : x.msg.mems.length < 2^40
 hdata : x.data.length < 2^40
 hmems : x.mems.length < 2^60
theorem tabB_iff (n : Nde) : ∀ (m i : Nat), tabB n i m = true ↔ ∀ j, i ≤ j → j < i + m → cntF (n.next.getD j 0) = true ∧ cntF (n.mtch.getD j 0) = true
 | 0, i => by simp [tabB]; intro j h1 h2; omega
 | m + 1, i => by
  simp only [tabB, Bool.and_eq_true, tabB_iff n m (i + 1)]
  constructor
  · intro h j h1 h2
    rcases Nat.lt_or_ge i j with hlt | hge
    · exact h.2 j (by omega) (by omega)
    · have : j = i := by omega
      subst this; exact h.1
  · intro h
    exact ⟨h i (Nat.le_refl _) (by omega), fun j h1 h2 => h j (by omega) (by omega)⟩
theorem cntF_iff {a : Int} : cntF a = true ↔ 0 ≤ a ∧ a ≤ most := by unfold cntF; rw [inF_iff]; rfl
theorem chk_ge : ∀ {l : List Ent} {t : Int}, chkEs t l = true → ∀ e ∈ l, 1 ≤ e.term ∧ t ≤ e.term
 | [], t, h, e, he => by cases he
 | x :: l, t, h, e, he => by
  simp only [chkEs, Bool.and_eq_true] at h
  have h1 := h.1
  simp only [entOk, Bool.and_eq_true, decide_eq_true_eq] at h1
  rcases List.mem_cons.1 he with rfl | he
  · omega
  · have := chk_ge h.2 e he; omega
theorem sound_fu {n : Nde} {x : Inp} (h : StepIn n x) (hs : soundN n = true) : SFu (Stp.new n) := by
  simp only [soundN, Bool.and_eq_true, Bool.or_eq_true, decide_eq_true_eq, inF_iff, cntF_iff] at hs
  obtain ⟨sl, id, tm, vo, le, ro, tr, co, ti, to_, tb, vt⟩ := hs
  have hmo : most = 1152921504606846976 := rfl
  have htb := (tabB_iff n 8 0).1 tb
  have htl : 0 ≤ termL n.log (lastL n.log) := by
    simp only [soundL, Bool.and_eq_true, decide_eq_true_eq] at sl
    rw [termL_last]
    cases hg : n.log.es.getLast? with
    | none => show 0 ≤ n.log.term; omega
    | some e =>
      show 0 ≤ e.term
      have := chk_ge sl.2.2 e (List.mem_of_getLast? hg)
      omega
  exact { toSGd := ⟨⟨⟨h.nw, (fun h => by cases h), (fun h => by cases h), (fun m hm => by cases hm)⟩, h.lg, sl⟩, id.1, id.2, fun i hi => by have := (htb i (Nat.zero_le _) (by omega)).1; rw [cntF_iff] at this; exact this, fun i hi => by have := (htb i (Nat.zero_le _) (by omega)).2; rw [cntF_iff] at this; exact this, co.1, co.2⟩
          t0 := tm.1
          t00 := by show 0 ≤ n.term; omega
          t1 := by show n.term ≤ most; omega
          k0 := ti.1
          k1 := ti.2
          vl := h.hv
          el := h.hes
          tr := tr }
end Go.Pm
