/- A part of the proof: what the functions of the program answer, as plain lists and numbers. -/
import Derived.Test.YtndkpoacbheemaaGreatP20
namespace Go.Pm
open Go.Proofs
set_option linter.unusedVariables false
set_option linter.unusedSimpArgs false
structure Ent where
 term : Int
 kind : Int
 data : List UInt8
def Ent.av (e : Ent) : AV := .agg [.int .i64 e.term, .int .i64 e.kind, bys e.data]
def ents (l : List Ent) : AV := .lst (l.map Ent.av)
structure Lg where
 index : Int
 term : Int
 mems : List Int
 es : List Ent
def Lg.av (g : Lg) : AV := .agg [.int .i64 g.index, .int .i64 g.term, ints g.mems, ents g.es]
@[simp] theorem good_ent (e : Ent) : e.av.good = true := by simp [Ent.av]
@[simp] theorem goodL_ents (l : List Ent) : goodL (l.map Ent.av) = true := goodL_map good_ent l
@[simp] theorem good_ents (l : List Ent) : (ents l).good = true := goodL_ents l
@[simp] theorem good_lg (g : Lg) : g.av.good = true := by simp [Lg.av]
@[simp] theorem lenV_ents (l : List Ent) (H : List AObj) : lenV (ents l) H = some (.int .i64 l.length) := by simp [ents]
@[simp] theorem elemsA_ents (l : List Ent) (H : List AObj) : elemsA (ents l) H = some (l.map Ent.av) := rfl
@[simp] theorem lz_ents (l : List Ent) : lz 3 (l.map Ent.av) = true := by cases l <;> rfl
theorem ixA_ents {l : List Ent} {k : IntKind} {i : Nat} {e : Ent} {H : List AObj} (h : l[i]? = some e) : ixA 3 (ents l) (.int k i) H = some (.ip [.int .i64 e.term, .int .i64 e.kind, bys e.data]) := by
 unfold ents
 exact ixA_lst (e := e.av) (by omega) (by simp [h]) rfl
@[simp] theorem offA_ptr (l tot i off k : Nat) : offA (.ptr l tot i off) k = some (.ptr l tot i (off + k)) := rfl
@[simp] theorem offA_ip (cs : List AV) (k : Nat) : offA (.ip cs) k = some (.ip (cs.drop k)) := rfl
@[simp] theorem loadA_ipc (c : AV) (cs : List AV) (H : List AObj) : loadA false 1 (.ip (c :: cs)) H = some c := rfl
@[simp] theorem loadA_ent (e : Ent) (H : List AObj) : loadA true 3 (.ip [.int .i64 e.term, .int .i64 e.kind, bys e.data]) H = some e.av := rfl
theorem cutA_ents {l : List Ent} {lo hi : Option AV} {H : List AObj} {i j : Nat} (hlo : boundA lo 0 = some (i : Int)) (hhi : boundA hi l.length = some (j : Int)) (h1 : i ≤ j) (h2 : j ≤ l.length) :
  cutA 3 (ents l) lo hi none H = some (ents ((l.take j).drop i)) := by
 unfold ents
 rw [cutA_lst hlo (by simpa using hhi) h1 (by simpa using h2) (lz_ents l)]
 simp
@[simp] theorem ld_ent0_t (g : Ent) (T : List AObj) : loadA false 1 (.ptr 0 1 0 0) (.row 3 [Ent.av g] :: T) = some (.int .i64 g.term) := rfl
@[simp] theorem ld_ent0_k (g : Ent) (T : List AObj) : loadA false 1 (.ptr 0 1 0 1) (.row 3 [Ent.av g] :: T) = some (.int .i64 g.kind) := rfl
@[simp] theorem ld_ent0_d (g : Ent) (T : List AObj) : loadA false 1 (.ptr 0 1 0 2) (.row 3 [Ent.av g] :: T) = some (bys g.data) := rfl
@[simp] theorem ld_ent0 (g : Ent) (T : List AObj) : loadA true 3 (.ptr 0 1 0 0) (.row 3 [Ent.av g] :: T) = some (Ent.av g) := rfl
@[simp] theorem ld_ent1_t (g : Ent) {o0 : AObj} (T : List AObj) : loadA false 1 (.ptr 1 1 0 0) (o0 :: .row 3 [Ent.av g] :: T) = some (.int .i64 g.term) := rfl
@[simp] theorem ld_ent1_k (g : Ent) {o0 : AObj} (T : List AObj) : loadA false 1 (.ptr 1 1 0 1) (o0 :: .row 3 [Ent.av g] :: T) = some (.int .i64 g.kind) := rfl
@[simp] theorem ld_ent1_d (g : Ent) {o0 : AObj} (T : List AObj) : loadA false 1 (.ptr 1 1 0 2) (o0 :: .row 3 [Ent.av g] :: T) = some (bys g.data) := rfl
@[simp] theorem ld_ent1 (g : Ent) {o0 : AObj} (T : List AObj) : loadA true 3 (.ptr 1 1 0 0) (o0 :: .row 3 [Ent.av g] :: T) = some (Ent.av g) := rfl
@[simp] theorem ld_ent2_t (g : Ent) {o0 o1 : AObj} (T : List AObj) : loadA false 1 (.ptr 2 1 0 0) (o0 :: o1 :: .row 3 [Ent.av g] :: T) = some (.int .i64 g.term) := rfl
@[simp] theorem ld_ent2_k (g : Ent) {o0 o1 : AObj} (T : List AObj) : loadA false 1 (.ptr 2 1 0 1) (o0 :: o1 :: .row 3 [Ent.av g] :: T) = some (.int .i64 g.kind) := rfl
@[simp] theorem ld_ent2_d (g : Ent) {o0 o1 : AObj} (T : List AObj) : loadA false 1 (.ptr 2 1 0 2) (o0 :: o1 :: .row 3 [Ent.av g] :: T) = some (bys g.data) := rfl
@[simp] theorem ld_ent2 (g : Ent) {o0 o1 : AObj} (T : List AObj) : loadA true 3 (.ptr 2 1 0 0) (o0 :: o1 :: .row 3 [Ent.av g] :: T) = some (Ent.av g) := rfl
@[simp] theorem ld_ent3_t (g : Ent) {o0 o1 o2 : AObj} (T : List AObj) : loadA false 1 (.ptr 3 1 0 0) (o0 :: o1 :: o2 :: .row 3 [Ent.av g] :: T) = some (.int .i64 g.term) := rfl
@[simp] theorem ld_ent3_k (g : Ent) {o0 o1 o2 : AObj} (T : List AObj) : loadA false 1 (.ptr 3 1 0 1) (o0 :: o1 :: o2 :: .row 3 [Ent.av g] :: T) = some (.int .i64 g.kind) := rfl
@[simp] theorem ld_ent3_d (g : Ent) {o0 o1 o2 : AObj} (T : List AObj) : loadA false 1 (.ptr 3 1 0 2) (o0 :: o1 :: o2 :: .row 3 [Ent.av g] :: T) = some (bys g.data) := rfl
@[simp] theorem ld_ent3 (g : Ent) {o0 o1 o2 : AObj} (T : List AObj) : loadA true 3 (.ptr 3 1 0 0) (o0 :: o1 :: o2 :: .row 3 [Ent.av g] :: T) = some (Ent.av g) := rfl
@[simp] theorem new_ent {β : Type} (g : Ent) (H : List AObj) (K : Kt β) : newK (Ent.av g) H K = K (.ptr H.length 1 0 0) (H ++ [.row 3 [Ent.av g]]) [] := rfl
@[simp] theorem ld_lg0_i (g : Lg) (T : List AObj) : loadA false 1 (.ptr 0 1 0 0) (.row 4 [Lg.av g] :: T) = some (.int .i64 g.index) := rfl
@[simp] theorem ld_lg0_t (g : Lg) (T : List AObj) : loadA false 1 (.ptr 0 1 0 1) (.row 4 [Lg.av g] :: T) = some (.int .i64 g.term) := rfl
@[simp] theorem ld_lg0_m (g : Lg) (T : List AObj) : loadA false 1 (.ptr 0 1 0 2) (.row 4 [Lg.av g] :: T) = some (ints g.mems) := rfl
@[simp] theorem ld_lg0_e (g : Lg) (T : List AObj) : loadA false 1 (.ptr 0 1 0 3) (.row 4 [Lg.av g] :: T) = some (ents g.es) := rfl
@[simp] theorem ld_lg0 (g : Lg) (T : List AObj) : loadA true 4 (.ptr 0 1 0 0) (.row 4 [Lg.av g] :: T) = some (Lg.av g) := rfl
@[simp] theorem ld_lg1_i (g : Lg) {o0 : AObj} (T : List AObj) : loadA false 1 (.ptr 1 1 0 0) (o0 :: .row 4 [Lg.av g] :: T) = some (.int .i64 g.index) := rfl
@[simp] theorem ld_lg1_t (g : Lg) {o0 : AObj} (T : List AObj) : loadA false 1 (.ptr 1 1 0 1) (o0 :: .row 4 [Lg.av g] :: T) = some (.int .i64 g.term) := rfl
@[simp] theorem ld_lg1_m (g : Lg) {o0 : AObj} (T : List AObj) : loadA false 1 (.ptr 1 1 0 2) (o0 :: .row 4 [Lg.av g] :: T) = some (ints g.mems) := rfl
@[simp] theorem ld_lg1_e (g : Lg) {o0 : AObj} (T : List AObj) : loadA false 1 (.ptr 1 1 0 3) (o0 :: .row 4 [Lg.av g] :: T) = some (ents g.es) := rfl
@[simp] theorem ld_lg1 (g : Lg) {o0 : AObj} (T : List AObj) : loadA true 4 (.ptr 1 1 0 0) (o0 :: .row 4 [Lg.av g] :: T) = some (Lg.av g) := rfl
@[simp] theorem ld_lg2_i (g : Lg) {o0 o1 : AObj} (T : List AObj) : loadA false 1 (.ptr 2 1 0 0) (o0 :: o1 :: .row 4 [Lg.av g] :: T) = some (.int .i64 g.index) := rfl
@[simp] theorem ld_lg2_t (g : Lg) {o0 o1 : AObj} (T : List AObj) : loadA false 1 (.ptr 2 1 0 1) (o0 :: o1 :: .row 4 [Lg.av g] :: T) = some (.int .i64 g.term) := rfl
@[simp] theorem ld_lg2_m (g : Lg) {o0 o1 : AObj} (T : List AObj) : loadA false 1 (.ptr 2 1 0 2) (o0 :: o1 :: .row 4 [Lg.av g] :: T) = some (ints g.mems) := rfl
@[simp] theorem ld_lg2_e (g : Lg) {o0 o1 : AObj} (T : List AObj) : loadA false 1 (.ptr 2 1 0 3) (o0 :: o1 :: .row 4 [Lg.av g] :: T) = some (ents g.es) := rfl
@[simp] theorem ld_lg2 (g : Lg) {o0 o1 : AObj} (T : List AObj) : loadA true 4 (.ptr 2 1 0 0) (o0 :: o1 :: .row 4 [Lg.av g] :: T) = some (Lg.av g) := rfl
@[simp] theorem ld_lg3_i (g : Lg) {o0 o1 o2 : AObj} (T : List AObj) : loadA false 1 (.ptr 3 1 0 0) (o0 :: o1 :: o2 :: .row 4 [Lg.av g] :: T) = some (.int .i64 g.index) := rfl
@[simp] theorem ld_lg3_t (g : Lg) {o0 o1 o2 : AObj} (T : List AObj) : loadA false 1 (.ptr 3 1 0 1) (o0 :: o1 :: o2 :: .row 4 [Lg.av g] :: T) = some (.int .i64 g.term) := rfl
@[simp] theorem ld_lg3_m (g : Lg) {o0 o1 o2 : AObj} (T : List AObj) : loadA false 1 (.ptr 3 1 0 2) (o0 :: o1 :: o2 :: .row 4 [Lg.av g] :: T) = some (ints g.mems) := rfl
@[simp] theorem ld_lg3_e (g : Lg) {o0 o1 o2 : AObj} (T : List AObj) : loadA false 1 (.ptr 3 1 0 3) (o0 :: o1 :: o2 :: .row 4 [Lg.av g] :: T) = some (ents g.es) := rfl
@[simp] theorem ld_lg3 (g : Lg) {o0 o1 o2 : AObj} (T : List AObj) : loadA true 4 (.ptr 3 1 0 0) (o0 :: o1 :: o2 :: .row 4 [Lg.av g] :: T) = some (Lg.av g) := rfl
@[simp] theorem new_lg {β : Type} (g : Lg) (H : List AObj) (K : Kt β) : newK (Lg.av g) H K = K (.ptr H.length 1 0 0) (H ++ [.row 4 [Lg.av g]]) [] := rfl

def lightL (g : Lg) : Bool := decide (g.es.length ≤ 200) && (decide (g.mems.length ≤ 100) && g.es.all fun e => decide (e.data.length ≤ 5000))
theorem light_loop (g : Lg) (hl : g.es.length < 2^62) : ∀ (m i : Nat) (E : List Nat), i + m = g.es.length →
  ref18_Light_J4 0 (.ptr 0 1 0 0) (.int .i64 i) [.row 4 [g.av]] E = some (.bool ((g.es.drop i).all fun e => decide (e.data.length ≤ 5000)), [], [])
 | 0, i, E, h => by
  refine ref18_Light_J4_of ?_
  have e1 : ¬ ((i : Int) < (g.es.length : Int)) := by omega
  have e2 : g.es.drop i = [] := List.drop_eq_nil_of_le (by omega)
  simp only [offA_ptr, Option.bind_some, Nat.zero_add, ld_lg0_e, lenV_ents, lss_int, e1, decide_false, condK_f, e2]
  exact endB_good rfl
 | m + 1, i, E, h => by
  refine ref18_Light_J4_of ?_
  have hi : i < g.es.length := by omega
  have e1 : ((i : Int) < (g.es.length : Int)) := by omega
  have e2 : g.es.drop i = g.es[i] :: g.es.drop (i + 1) := List.drop_eq_getElem_cons hi
  have e3 : IntKind.i64.wrap ((i : Int) + 1) = ((i + 1 : Nat) : Int) := w64 (by omega) (by omega)
  simp only [offA_ptr, Option.bind_some, Nat.zero_add, ld_lg0_e, lenV_ents, lss_int, e1, decide_true, condK_t, e2, ixA_ents (List.getElem?_eq_getElem hi), offA_ip, List.drop_succ_cons, List.drop_zero, loadA_ipc, lenV_bys, gtr_int, condK_dec, List.all_cons]
  split
  · have : ¬ g.es[i].data.length ≤ 5000 := by omega
    simp only [this, decide_false, Bool.false_and]
    exact endB_good rfl
  · have : g.es[i].data.length ≤ 5000 := by omega
    simp only [this, decide_true, Bool.true_and, add_int, Option.bind_some, e3]
    exact light_loop g hl m (i + 1) E (by omega)
theorem Light_ok (g : Lg) : EV C n_ref18_Light [g.av] [] = some (.bool (lightL g), [], []) := by
 refine ref18_Light_of ?_
 simp only [List.length_nil, new_lg, List.nil_append, offA_ptr, Option.bind_some, Nat.zero_add, ld_lg0_e, ld_lg0_m, lenV_ents, lenV_ints, gtr_int, splitK_dec, condK_dec]
 split
 · have : ¬ g.es.length ≤ 200 := by omega
   simp only [lightL, this, decide_false, Bool.false_and]
   exact endB_good rfl
 · have h1 : g.es.length ≤ 200 := by omega
   split
   · have : ¬ g.mems.length ≤ 100 := by omega
     simp only [lightL, this, decide_false, Bool.false_and, Bool.and_false]
     exact endB_good rfl
   · have h2 : g.mems.length ≤ 100 := by omega
     simp only [lightL, h1, h2, decide_true, Bool.true_and]
     exact light_loop g (by omega) g.es.length 0 _ (by omega)
theorem same_ents_loop (l : List Ent) (hl : l.length < 2^62) : ∀ (m i : Nat) (E : List Nat), i + m = l.length →
  ref18_SameEntries_J4 0 (ents l) (ents l) (.int .i64 i) [] E = some (.bool true, [], [])
 | 0, i, E, h => by
  refine ref18_SameEntries_J4_of ?_
  have e1 : ¬ ((i : Int) < (l.length : Int)) := by omega
  simp only [Option.bind_some, lenV_ents, lss_int, e1, decide_false, condK_f]
  exact endB_good rfl
 | m + 1, i, E, h => by
  refine ref18_SameEntries_J4_of ?_
  have hi : i < l.length := by omega
  have e1 : ((i : Int) < (l.length : Int)) := by omega
  have e3 : IntKind.i64.wrap ((i : Int) + 1) = ((i + 1 : Nat) : Int) := w64 (by omega) (by omega)
  simp only [Option.bind_some, lenV_ents, lss_int, e1, decide_true, condK_t, ixA_ents (List.getElem?_eq_getElem hi), offA_ip, List.drop_succ_cons, List.drop_zero, loadA_ipc, neq_int, Bool.not_true, splitK_f, cvL_bys, neq_str, condK_f, add_int, e3]
  exact same_ents_loop l hl m (i + 1) E (by omega)
theorem SameEntries_ok (l : List Ent) (hl : l.length < 2^62) : EV C n_ref18_SameEntries [ents l, ents l] [] = some (.bool true, [], []) := by
 refine ref18_SameEntries_of ?_
 simp only [lenV_ents, Option.bind_some, neq_int, decide_true, Bool.not_true, condK_f]
 exact same_ents_loop l hl l.length 0 [] (by omega)
theorem Same_ok (g : Lg) (hm : g.mems.length < 2^62) (hl : g.es.length < 2^62) : EV C n_ref18_Same [g.av, g.av] [] = some (.bool true, [], []) := by
 refine ref18_Same_of ?_
 simp only [List.length_nil, new_lg, List.nil_append, List.length_singleton, List.singleton_append, offA_ptr, Option.bind_some, Nat.zero_add, ld_lg0_i, ld_lg1_i, ld_lg0_t, ld_lg1_t, ld_lg0_m, ld_lg1_m, eql_int, decide_true, splitK_t]
 rw [callK_ok (by simp) (ref17_Same_ok _ hm)]
 simp only [offA_ptr, Option.bind_some, Nat.zero_add, splitK_t, ld_lg0_e, ld_lg1_e]
 rw [callK_ok (by simp) (SameEntries_ok _ hl)]
 exact endB_good rfl
end Go.Pm
