/- A part of the proof: what the functions of the program answer, as plain lists and numbers. -/
import Derived.Test.YtndkpoacbheemaaGreatP21
namespace Go.Pm
open Go.Proofs
set_option linter.unusedVariables false
set_option linter.unusedSimpArgs false
set_option linter.defProp false in
def ZL := And.intro (@List.length_nil.{0}) (And.intro (@new_lg) (And.intro (@new_ent) (And.intro (@List.nil_append.{0}) (And.intro (@List.length_singleton.{0}) (And.intro (@List.singleton_append.{0}) (And.intro (@List.cons_append.{0}) (And.intro (@List.length_cons.{0}) (And.intro (@offA_ptr) (And.intro (@offA_ip) (And.intro (@Option.bind_some.{0, 0}) (And.intro (@Nat.zero_add) (And.intro (@Nat.add_zero) (And.intro (@ld_lg0_i) (And.intro (@ld_lg0_t) (And.intro (@ld_lg0_m) (And.intro (@ld_lg0_e) (And.intro (@ld_lg0) (And.intro (@ld_ent0_t) (And.intro (@ld_ent0_k) (And.intro (@ld_ent0_d) (And.intro (@ld_ent1_t) (And.intro (@ld_ent1_k) (And.intro (@ld_ent1_d) (And.intro (@ld_ent0) (And.intro (@ld_ent1) (And.intro (@lenV_ents) (And.intro (@lenV_ints) (And.intro (@lenV_bys) (And.intro (@lss_int) (And.intro (@leq_int) (And.intro (@gtr_int) (And.intro (@geq_int) (And.intro (@eql_int) (And.intro (@neq_int) (And.intro (@add_int) (And.intro (@sub_int) (And.intro (@splitK_dec) (And.intro (@condK_dec) (And.intro (@splitK_t) (And.intro (@splitK_f) (And.intro (@condK_t) (And.intro (@condK_f) (And.intro (@not_bool) (And.intro (@List.drop_succ_cons.{0}) (And.intro (@List.drop_zero.{0}) (And.intro (@loadA_ipc) (And.intro (@loadA_ent) (And.intro (@extA_0) (And.intro (@extA_1) (And.intro (@Bool.not_true) (@Bool.not_false)))))))))))))))))))))))))))))))))))))))))))))))))))
theorem condB_t {β : Type} {b : Bool} {x : Option β} (h : b = true) : condB b x = x := by subst h; rfl
theorem sto_agg {β : Type} {H : List AObj} {l z : Nat} {cs ds : List AV} {K : List AObj → List Nat → Option β} (h : H[l]? = some (.row z [.agg cs])) (hl : cs.length = ds.length) (h1 : ds.all AV.one = true) (hg : goodL ds = true) :
  stoK ds.length (.ptr l 1 0 0) (.agg ds) H K = K (H.set l (.row z [.agg ds])) [] := by
 have h2 : storeA ds.length (.ptr l 1 0 0) (.agg ds) H = some (H.set l (.row z [.agg ds]), []) := by
  unfold storeA; simp only [h, AV.cells, List.length_singleton]; rw [if_pos ⟨trivial, trivial, h1⟩]; simp [setC, hl, escs_good hg, List.drop_eq_nil_of_le (Nat.le_of_eq hl)]
 unfold stoK; rw [h2]; rfl
theorem sto_ent {β : Type} {H : List AObj} {l : Nat} {a b c : AV} (e : Ent) {K : List AObj → List Nat → Option β} (h : H[l]? = some (.row 3 [.agg [a, b, c]])) : stoK 3 (.ptr l 1 0 0) e.av H K = K (H.set l (.row 3 [e.av])) [] :=
 sto_agg (ds := [.int .i64 e.term, .int .i64 e.kind, bys e.data]) h rfl rfl (by simp)
theorem new_ent0 {β : Type} (H : List AObj) (K : Kt β) : newK (.agg [(.int .i64 0), (.int .i64 0), .nils]) H K = K (.ptr H.length 1 0 0) (H ++ [.row 3 [.agg [(.int .i64 0), (.int .i64 0), .nils]]]) [] := rfl
theorem neq_nil1 (ms : Array (String × TypeId)) (c : TypeId → Bool) : binA .neq (.interface ms) c true .nili .nili = some (.bool false) := rfl
theorem neq_nil2 (ms : Array (String × TypeId)) (c : TypeId → Bool) (t : TypeId) (v : AV) : binA .neq (.interface ms) c true (.ifc t v) .nili = some (.bool true) := rfl
theorem eql_nil2 (ms : Array (String × TypeId)) (c : TypeId → Bool) (t : TypeId) (v : AV) : binA .eql (.interface ms) c true (.ifc t v) .nili = some (.bool false) := rfl
theorem ixA_ents' {l : List Ent} {k : IntKind} {i : Int} {e : Ent} {H : List AObj} (h0 : 0 ≤ i) (h : l[i.toNat]? = some e) : ixA 3 (ents l) (.int k i) H = some (.ip [.int .i64 e.term, .int .i64 e.kind, bys e.data]) := by
 have : i = ((i.toNat : Nat) : Int) := by omega
 rw [this]; exact ixA_ents h
/-- an error's code -/
def codeA (n : Int) : AV := .ifc t_api_Code (.int .i64 n)
@[simp] theorem good_code (n : Int) : (codeA n).good = true := rfl
def most : Int := 1152921504606846976
def cnt (n : Int) : Bool := decide (0 ≤ n ∧ n ≤ most)
theorem count_ok (n : Int) : EV C n_log_count [.int .i64 n] [] = some (.bool (cnt n), [], []) := by
 refine log_count_of ?_
 simp only [ZL, Nat.reduceAdd]
 split
 · rename_i h
   refine (endB_good rfl).trans ?_
   simp [cnt, most, h]
 · rename_i h
   refine (endB_good rfl).trans ?_
   simp [cnt, h]
def entOk (e : Ent) (t : Int) : Bool := decide (t ≤ e.term ∧ 1 ≤ e.term ∧ e.term ≤ most ∧ 0 ≤ e.kind ∧ e.kind ≤ 2) && (decide (e.kind ≠ 2) || mayL (ofB e.data))
theorem entry_ok (e : Ent) (t : Int) (hd : e.data.length < 2^40) : EV C n_log_entry [e.av, .int .i64 t] [] = some (.bool (entOk e t), [], []) := by
 refine log_entry_of ?_
 have hmax : maxA [.int .i64 t, .int .i64 1] = some (.int .i64 (max t 1)) := by
   show some (AV.int .i64 (if 1 > t then 1 else t)) = _
   have : (if 1 > t then (1 : Int) else t) = max t 1 := by split <;> omega
   rw [this]
 simp only [hmax, ZL, Nat.reduceAdd]
 have hm : most = 1152921504606846976 := rfl
 split
 · rename_i h
   have : entOk e t = false := by
    unfold entOk; rw [Bool.and_eq_false_iff]; left; simp only [decide_eq_false_iff_not]; omega
   rw [this]; exact endB_good rfl
 · rename_i h
   have h1 : t ≤ e.term ∧ 1 ≤ e.term := by omega
   rw [callK_ok (by simp) (count_ok e.term)]
   simp only [ZL, Nat.reduceAdd]
   cases hc : cnt e.term with
   | false =>
    have : entOk e t = false := by
      simp only [cnt, decide_eq_false_iff_not] at hc
      unfold entOk; rw [Bool.and_eq_false_iff]; left; simp only [decide_eq_false_iff_not]; omega
    rw [this]; exact endB_good rfl
   | true =>
    simp only [cnt, decide_eq_true_eq] at hc
    simp only [ZL, Nat.reduceAdd]
    split
    · have : entOk e t = false := by
        unfold entOk; rw [Bool.and_eq_false_iff]; left; simp only [decide_eq_false_iff_not]; omega
      rw [this]; exact endB_good rfl
    · split
      · have : entOk e t = false := by
          unfold entOk; rw [Bool.and_eq_false_iff]; left; simp only [decide_eq_false_iff_not]; omega
        rw [this]; exact endB_good rfl
      · have hd1 : decide (t ≤ e.term ∧ 1 ≤ e.term ∧ e.term ≤ most ∧ 0 ≤ e.kind ∧ e.kind ≤ 2) = true := by simp only [decide_eq_true_eq]; omega
        by_cases hk : e.kind = 2
        · have : entOk e t = mayL (ofB e.data) := by simp [entOk, hd1, hk]; intro _; omega
          have hk' : decide (e.kind = 2) = true := by simp [hk]
          simp only [hk', ZL, Nat.reduceAdd]
          rw [callK_ok (by simp) (conf_Of_ok e.data hd), this]
          cases hm : mayL (ofB e.data) with
          | true => simp only [if_true, ZL, Nat.reduceAdd, nili_eq]; exact endB_good rfl
          | false => simp only [Bool.false_eq_true, if_false, ZL, Nat.reduceAdd, eql_nil2]; exact endB_good rfl
        · have : entOk e t = true := by simp [entOk, hk]; omega
          have hk' : decide (e.kind = 2) = false := by simp [hk]
          simp only [hk', ZL, Nat.reduceAdd]
          rw [this]; exact endB_good rfl
def chkEs : Int → List Ent → Bool
 | _, [] => true
 | t, e :: l => entOk e t && chkEs e.term l
def soundL (g : Lg) : Bool := decide (0 ≤ g.index ∧ g.index ≤ most ∧ 0 ≤ g.term ∧ g.term ≤ most ∧ (g.es.length : Int) ≤ most - g.index) && (mayL g.mems && chkEs g.term g.es)
def lightP (l : List Ent) : Prop := ∀ e ∈ l, e.data.length < 2^40
theorem check_loop (o : AObj) (l : List Ent) (hl : l.length < 2^62) (hp : lightP l) : ∀ (m i : Nat) (t : Int) (E : List Nat), i + m = l.length →
  log_Check_J5 0 (.int .i64 t) (ents l) (.int .i64 l.length) (.int .i64 i) [o] E = some (if chkEs t (l.drop i) = true then .nili else codeA 3, [], [])
 | 0, i, t, E, h => by
  refine log_Check_J5_of ?_
  have e1 : ¬ ((i : Int) < (l.length : Int)) := by omega
  have e2 : l.drop i = [] := List.drop_eq_nil_of_le (by omega)
  simp only [ZL, Nat.reduceAdd, e1, decide_false, e2, chkEs, if_true]
  exact endB_good rfl
 | m + 1, i, t, E, h => by
  refine log_Check_J5_of ?_
  have hi : i < l.length := by omega
  have e1 : ((i : Int) < (l.length : Int)) := by omega
  have e2 : l.drop i = l[i] :: l.drop (i + 1) := List.drop_eq_getElem_cons hi
  have e3 : IntKind.i64.wrap ((i : Int) + 1) = ((i + 1 : Nat) : Int) := w64 (by omega) (by omega)
  simp only [ZL, Nat.reduceAdd, e1, decide_true, e2, ixA_ents (List.getElem?_eq_getElem hi), new_ent0]
  rw [sto_ent l[i] rfl]
  simp only [List.set_cons_succ, List.set_cons_zero, ZL, Nat.reduceAdd]
  rw [callK_ok (by simp) (entry_ok l[i] t (hp _ (List.getElem_mem hi)))]
  simp only [chkEs]
  by_cases hc : entOk l[i] t = true
  case neg =>
   simp only [Bool.not_eq_true] at hc
   simp only [hc, ZL, Nat.reduceAdd, Bool.false_and, Bool.false_eq_true, if_false]
   exact endB_good rfl
  case pos =>
   simp only [hc, ZL, Nat.reduceAdd, Bool.true_and, e3]
   rw [condB_t (by simp [AV.bel, bel_good 1 (ents l) (good_ents l)])]
   exact check_loop o l hl hp m (i + 1) l[i].term E (by omega)
theorem Check_ok (g : Lg) (hm : g.mems.length < 2^62) (hl : g.es.length < 2^62) (hp : lightP g.es) : EV C n_log_Check [g.av] [] = some (if soundL g = true then .nili else codeA 3, [], []) := by
 refine log_Check_of ?_
 have hmo : most = 1152921504606846976 := rfl
 have bad : soundL g = false → ∀ (H : List AObj) (E : List Nat), endB false false 0 (codeA 3) H E = some (if soundL g = true then .nili else codeA 3, [], []) := fun h H E => by
  rw [h]; exact endB_good rfl
 simp only [ZL, Nat.reduceAdd]
 rw [callK_ok (by simp) (count_ok g.index)]
 simp only [ZL, Nat.reduceAdd]
 cases hc : cnt g.index with
 | false =>
  simp only [cnt, decide_eq_false_iff_not] at hc
  refine bad ?_ _ _
  unfold soundL; rw [Bool.and_eq_false_iff]; left; simp only [decide_eq_false_iff_not]; omega
 | true =>
  simp only [cnt, decide_eq_true_eq] at hc
  simp only [ZL, Nat.reduceAdd]
  rw [callK_ok (by simp) (count_ok g.term)]
  simp only [ZL, Nat.reduceAdd]
  cases hc2 : cnt g.term with
  | false =>
   simp only [cnt, decide_eq_false_iff_not] at hc2
   refine bad ?_ _ _
   unfold soundL; rw [Bool.and_eq_false_iff]; left; simp only [decide_eq_false_iff_not]; omega
  | true =>
   simp only [cnt, decide_eq_true_eq] at hc2
   simp only [ZL, Nat.reduceAdd]
   rw [callK_ok (by simp) (conf_May_ok g.mems hm)]
   simp only [ZL, Nat.reduceAdd]
   cases hc3 : mayL g.mems with
   | false =>
    refine bad ?_ _ _
    unfold soundL; rw [hc3, Bool.false_and, Bool.and_false]
   | true =>
    have e1 : IntKind.i64.wrap (1152921504606846976 - g.index) = 1152921504606846976 - g.index := by rw [wrap64] <;> omega
    simp only [ZL, Nat.reduceAdd, e1]
    split
    · refine bad ?_ _ _
      unfold soundL; rw [Bool.and_eq_false_iff]; left; simp only [decide_eq_false_iff_not]; omega
    · have : soundL g = chkEs g.term g.es := by
       unfold soundL; rw [hc3, Bool.true_and]
       have : decide (0 ≤ g.index ∧ g.index ≤ most ∧ 0 ≤ g.term ∧ g.term ≤ most ∧ (g.es.length : Int) ≤ most - g.index) = true := by simp only [decide_eq_true_eq]; omega
       rw [this, Bool.true_and]
      rw [this]
      exact check_loop _ g.es hl hp g.es.length 0 g.term _ (by omega)
end Go.Pm
