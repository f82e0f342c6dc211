/- A part of the proof: what the functions of the program answer, as plain lists and numbers. -/
import Derived.Test.YtaoklfecdcakbaaDoorP10
import Derived.Test.YtaoklfecdcakbaaDoorP15
namespace Go.Pm
open Go.Proofs
set_option linter.unusedVariables false
set_option linter.unusedSimpArgs false
inductive Tre where
  | mk (kind : Int) (key value digest : List UInt8) (kids : List Tre)
namespace Tre
def kind : Tre → Int | .mk k _ _ _ _ => k
def key : Tre → List UInt8 | .mk _ a _ _ _ => a
def value : Tre → List UInt8 | .mk _ _ b _ _ => b
def digest : Tre → List UInt8 | .mk _ _ _ c _ => c
def kids : Tre → List Tre | .mk _ _ _ _ ks => ks
end Tre
mutual
def Tre.av : Tre → AV
  | .mk k a b c ks => .agg [.int .i64 k, bys a, bys b, bys c, .lst (avL ks)]
def avL : List Tre → List AV
  | [] => []
  | t :: ts => t.av :: avL ts
end
theorem avL_map : ∀ l : List Tre, avL l = l.map Tre.av
  | [] => by simp [avL]
  | t :: ts => by simp [avL, avL_map ts]
def kidsA (ks : List Tre) : AV := .lst (ks.map Tre.av)
theorem av_eq (t : Tre) : t.av = .agg [.int .i64 t.kind, bys t.key, bys t.value, bys t.digest, kidsA t.kids] := by
  cases t with
  | mk k a b c ks => simp [Tre.av, avL_map, kidsA, Tre.kind, Tre.key, Tre.value, Tre.digest, Tre.kids]
theorem Tre.ind {P : Tre → Prop} (h : ∀ t : Tre, (∀ k ∈ t.kids, P k) → P t) (t : Tre) : P t :=
  h t fun k hk => Tre.ind h k
termination_by SizeOf.sizeOf t
decreasing_by
  cases t with
  | mk a b c d ks =>
    have := List.sizeOf_lt_of_mem hk
    simp only [Tre.kids] at this
    simp only [Tre.mk.sizeOf_spec]; omega
@[simp] theorem good_tr (t : Tre) : t.av.good = true := by
  induction t using Tre.ind with
  | h t ih =>
    rw [av_eq]
    simp only [AV.good, goodL, good_bys, Bool.true_and, kidsA, Bool.and_true]
    exact goodL_all.2 fun v hv => by
      obtain ⟨k, hk, rfl⟩ := List.mem_map.1 hv
      exact ih k hk
@[simp] theorem goodL_tr (l : List Tre) : goodL (l.map Tre.av) = true := goodL_map good_tr l
@[simp] theorem good_kids (l : List Tre) : (kidsA l).good = true := goodL_tr l
@[simp] theorem lenV_kids (l : List Tre) (H : List AObj) : lenV (kidsA l) H = some (.int .i64 l.length) := by simp [kidsA]
theorem cells_tr (t : Tre) : t.av.cells = [.int .i64 t.kind, bys t.key, bys t.value, bys t.digest, kidsA t.kids] := by rw [av_eq]; rfl
theorem ixA_kids {l : List Tre} {k : IntKind} {i : Nat} {t : Tre} {H : List AObj} (h : l[i]? = some t) : ixA 5 (kidsA l) (.int k i) H = some (.ip t.av.cells) := by
  unfold kidsA
  exact ixA_lst (e := t.av) (by omega) (by simp [h]) (by rw [cells_tr]; rfl)
@[simp] theorem loadA_tr (t : Tre) (H : List AObj) : loadA true 5 (.ip t.av.cells) H = some t.av := by
  rw [cells_tr, av_eq]; rfl
@[simp] theorem new_tr {β : Type} (t : Tre) (H : List AObj) (K : AV → List AObj → List Nat → Option β) : newK t.av H K = K (.ptr H.length 1 0 0) (H ++ [.row 5 [t.av]]) [] := by
  have : newA t.av H = some (.ptr H.length 1 0 0, H ++ [.row 5 [t.av]], []) := by
    unfold newA; rw [if_pos (by rw [cells_tr]; exact ⟨by simp, rfl⟩), cells_tr]; rfl
  unfold newK; rw [this]; rfl
@[simp] theorem ld_tr0_k (t : Tre) (T : List AObj) : loadA false 1 (.ptr 0 1 0 0) (.row 5 [t.av] :: T) = some (.int .i64 t.kind) := by rw [av_eq t]; rfl
@[simp] theorem ld_tr0_a (t : Tre) (T : List AObj) : loadA false 1 (.ptr 0 1 0 1) (.row 5 [t.av] :: T) = some (bys t.key) := by rw [av_eq t]; rfl
@[simp] theorem ld_tr0_b (t : Tre) (T : List AObj) : loadA false 1 (.ptr 0 1 0 2) (.row 5 [t.av] :: T) = some (bys t.value) := by rw [av_eq t]; rfl
@[simp] theorem ld_tr0_c (t : Tre) (T : List AObj) : loadA false 1 (.ptr 0 1 0 3) (.row 5 [t.av] :: T) = some (bys t.digest) := by rw [av_eq t]; rfl
@[simp] theorem ld_tr0_s (t : Tre) (T : List AObj) : loadA false 1 (.ptr 0 1 0 4) (.row 5 [t.av] :: T) = some (kidsA t.kids) := by rw [av_eq t]; rfl
@[simp] theorem ld_tr0 (t : Tre) (T : List AObj) : loadA true 5 (.ptr 0 1 0 0) (.row 5 [t.av] :: T) = some t.av := by rw [av_eq t]; rfl
@[simp] theorem ld_tr1_k (t : Tre) {o0 : AObj} (T : List AObj) : loadA false 1 (.ptr 1 1 0 0) (o0 :: .row 5 [t.av] :: T) = some (.int .i64 t.kind) := by rw [av_eq t]; rfl
@[simp] theorem ld_tr1_a (t : Tre) {o0 : AObj} (T : List AObj) : loadA false 1 (.ptr 1 1 0 1) (o0 :: .row 5 [t.av] :: T) = some (bys t.key) := by rw [av_eq t]; rfl
@[simp] theorem ld_tr1_b (t : Tre) {o0 : AObj} (T : List AObj) : loadA false 1 (.ptr 1 1 0 2) (o0 :: .row 5 [t.av] :: T) = some (bys t.value) := by rw [av_eq t]; rfl
@[simp] theorem ld_tr1_c (t : Tre) {o0 : AObj} (T : List AObj) : loadA false 1 (.ptr 1 1 0 3) (o0 :: .row 5 [t.av] :: T) = some (bys t.digest) := by rw [av_eq t]; rfl
@[simp] theorem ld_tr1_s (t : Tre) {o0 : AObj} (T : List AObj) : loadA false 1 (.ptr 1 1 0 4) (o0 :: .row 5 [t.av] :: T) = some (kidsA t.kids) := by rw [av_eq t]; rfl
@[simp] theorem ld_tr1 (t : Tre) {o0 : AObj} (T : List AObj) : loadA true 5 (.ptr 1 1 0 0) (o0 :: .row 5 [t.av] :: T) = some t.av := by rw [av_eq t]; rfl
@[simp] theorem ld_tr2_k (t : Tre) {o0 o1 : AObj} (T : List AObj) : loadA false 1 (.ptr 2 1 0 0) (o0 :: o1 :: .row 5 [t.av] :: T) = some (.int .i64 t.kind) := by rw [av_eq t]; rfl
@[simp] theorem ld_tr2_a (t : Tre) {o0 o1 : AObj} (T : List AObj) : loadA false 1 (.ptr 2 1 0 1) (o0 :: o1 :: .row 5 [t.av] :: T) = some (bys t.key) := by rw [av_eq t]; rfl
@[simp] theorem ld_tr2_b (t : Tre) {o0 o1 : AObj} (T : List AObj) : loadA false 1 (.ptr 2 1 0 2) (o0 :: o1 :: .row 5 [t.av] :: T) = some (bys t.value) := by rw [av_eq t]; rfl
@[simp] theorem ld_tr2_c (t : Tre) {o0 o1 : AObj} (T : List AObj) : loadA false 1 (.ptr 2 1 0 3) (o0 :: o1 :: .row 5 [t.av] :: T) = some (bys t.digest) := by rw [av_eq t]; rfl
@[simp] theorem ld_tr2_s (t : Tre) {o0 o1 : AObj} (T : List AObj) : loadA false 1 (.ptr 2 1 0 4) (o0 :: o1 :: .row 5 [t.av] :: T) = some (kidsA t.kids) := by rw [av_eq t]; rfl
@[simp] theorem ld_tr2 (t : Tre) {o0 o1 : AObj} (T : List AObj) : loadA true 5 (.ptr 2 1 0 0) (o0 :: o1 :: .row 5 [t.av] :: T) = some t.av := by rw [av_eq t]; rfl
theorem callK_ptr {β : Type} {env : Env} {g : FuncId} {args : List AV} {H H' : List AObj} {K : AV → List AObj → List Nat → Option β} {v : AV} (h0 : frzL H args = some args) (h1 : belL 0 args = false) (h2 : killsL args = []) (h3 : env g args H = some (v, H', [])) :
    callK env false g args H K = K v H' [] := by
  simp [callK, callA, h0, h1, h2, killAll, h3]
theorem endB_keep {v : AV} {H T : List AObj} (h : v.good = true) : endB false false H.length v (H ++ T) [] = some (v, H, []) := by
  simp [endB, endA, frz_good _ v h, bel_good _ v h, kills_good v h, killAll]
theorem endB_keep' {v : AV} {H : List AObj} (h : v.good = true) : endB false false H.length v H [] = some (v, H, []) := by
  have := endB_keep (v := v) (H := H) (T := []) h
  rwa [List.append_nil] at this
def idxF (p : Tre → Bool) : List Tre → Nat → Int
  | [], _ => -1
  | t :: ts, i => if p t = true then (i : Int) else idxF p ts (i + 1)
theorem idxF_any (p : Tre → Bool) : ∀ (l : List Tre) (i : Nat), decide (0 ≤ idxF p l i) = l.any p
  | [], i => by simp [idxF]
  | t :: ts, i => by
    simp only [idxF, List.any_cons]
    by_cases hp : p t = true
    · simp [hp]
    · simp [hp, idxF_any p ts (i + 1)]
theorem index_loop {g : FuncId} {ca : List AV} {H : List AObj} (p : Tre → Bool) (hok : okF Tryd.prog g = true) (l : List Tre) (hl : l.length < 2^62)
    (hp : ∀ t ∈ l, ∀ (K : AV → List AObj → List Nat → Option R3), callK (EV C) false g ([] ++ [t.av] ++ ca) H K = K (.bool (p t)) H []) : ∀ (m i : Nat), i + m = l.length →
    IndexFunc_api_Tree_J2 H.length (kidsA l) (.clo g [] ca) (.int .i64 l.length) (.int .i64 i) H [] = some (.int .i64 (idxF p (l.drop i) i), H, [])
  | 0, i, h => by
    refine IndexFunc_api_Tree_J2_of ?_
    have e1 : ¬ ((i : Int) < (l.length : Int)) := by omega
    have e2 : l.drop i = [] := List.drop_eq_nil_of_le (by omega)
    simp only [lss_int, e1, decide_false, Option.bind_some, condK_f, e2, idxF]
    exact endB_keep' rfl
  | m + 1, i, h => by
    refine IndexFunc_api_Tree_J2_of ?_
    have hi : i < l.length := by omega
    have e1 : ((i : Int) < (l.length : Int)) := by omega
    have e2 : l.drop i = l[i] :: l.drop (i + 1) := List.drop_eq_getElem_cons hi
    have e3 : IntKind.i64.wrap ((i : Int) + 1) = ((i + 1 : Nat) : Int) := w64 (by omega) (by omega)
    simp only [lss_int, e1, decide_true, Option.bind_some, condK_t, ixA_kids (List.getElem?_eq_getElem hi), loadA_tr, valK, hok, if_true, hp _ (List.getElem_mem hi), e2, idxF]
    cases hc : p l[i] with
    | true =>
      simp only [condK_t, if_true, List.append_nil]
      exact endB_keep' rfl
    | false =>
      simp only [condK_f, Bool.false_eq_true, if_false, add_int, Option.bind_some, e3, List.append_nil]
      exact index_loop p hok l hl hp m (i + 1) (by omega)
theorem Index_ok {g : FuncId} {ca : List AV} {H : List AObj} (p : Tre → Bool) (hok : okF Tryd.prog g = true) (l : List Tre) (hl : l.length < 2^62)
    (hp : ∀ t ∈ l, ∀ (K : AV → List AObj → List Nat → Option R3), callK (EV C) false g ([] ++ [t.av] ++ ca) H K = K (.bool (p t)) H []) :
    EV C n_IndexFunc_api_Tree [kidsA l, .clo g [] ca] H = some (.int .i64 (idxF p l 0), H, []) := by
  refine IndexFunc_api_Tree_of ?_
  simp only [lenV_kids, Option.bind_some]
  exact index_loop p hok l hl hp l.length 0 (by omega)
theorem cl_pure {g : FuncId} {t : Tre} {b : Bool} (h : EV C g [t.av] [] = some (.bool b, [], [])) (H : List AObj) (K : AV → List AObj → List Nat → Option R3) : callK (EV C) false g ([] ++ [t.av] ++ []) H K = K (.bool b) H [] :=
  callK_ok (args := [t.av]) (by simp) h
theorem Contains_pure {g : FuncId} (p : Tre → Bool) (hok : okF Tryd.prog g = true) (l : List Tre) (hl : l.length < 2^62) (hp : ∀ t ∈ l, EV C g [t.av] [] = some (.bool (p t), [], [])) :
    EV C n_ContainsFunc_api_Tree [kidsA l, .clo g [] []] [] = some (.bool (l.any p), [], []) := by
  refine ContainsFunc_api_Tree_of ?_
  simp only []
  rw [callK_ok (by simp) (Index_ok p hok l hl fun t ht K => cl_pure (hp t ht) [] K)]
  simp only [geq_int, Option.bind_some, idxF_any]
  exact endB_good rfl
theorem Contains_ptr {g : FuncId} (p : Tre → Bool) (q : AV) {H : List AObj} (hq : ∃ l tot i off, q = .ptr l tot i off) (hok : okF Tryd.prog g = true) (l : List Tre) (hl : l.length < 2^62) (hp : ∀ t ∈ l, EV C g [t.av, q] H = some (.bool (p t), H, [])) :
    EV C n_ContainsFunc_api_Tree [kidsA l, .clo g [] [q]] H = some (.bool (l.any p), H, []) := by
  refine ContainsFunc_api_Tree_of ?_
  obtain ⟨pl, tot, i, off, rfl⟩ := hq
  simp only []
  rw [callK_ptr (v := .int .i64 (idxF p l 0)) (H' := H) (frzL_cons (frz_good _ _ (good_kids l)) rfl) (by simp [belL, AV.bel]) (by simp [killsL, kills, kills_good _ (good_kids l)]) (Index_ok p hok l hl fun t ht K => ?_)]
  · simp only [geq_int, Option.bind_some, idxF_any, List.append_nil]
    exact endB_keep' rfl
  · exact callK_ptr (args := [t.av, .ptr pl tot i off]) (frzL_cons (frz_good _ _ (good_tr t)) rfl) (by simp [belL, AV.bel]) (by simp [killsL, kills, kills_good _ (good_tr t)]) (hp t ht)
def Tre.isNode (t : Tre) : Bool := decide (t.kind = 1) || (decide (t.kind = 2) || decide (0 < t.kids.length))
mutual
def deepF : Tre → Int → Bool
  | .mk k a b c ks, n => ((Tre.mk k a b c ks).isNode && decide (n < 1)) || deepL ks (n - 1)
def deepL : List Tre → Int → Bool
  | [], _ => false
  | t :: ts, n => deepF t n || deepL ts n
end
theorem deepL_any : ∀ (l : List Tre) (n : Int), deepL l n = l.any fun t => deepF t n
  | [], n => by simp [deepL]
  | t :: ts, n => by simp [deepL, deepL_any ts n]
theorem deepF_eq (t : Tre) (n : Int) : deepF t n = ((t.isNode && decide (n < 1)) || t.kids.any fun k => deepF k (n - 1)) := by
  cases t with
  | mk k a b c ks => rw [deepF, deepL_any]; rfl
def formed1 (t : Tre) : Bool :=
  if t.kind = 0 then decide (t.key.length + t.value.length + t.digest.length + t.kids.length = 0)
  else if t.kind = 1 then decide (t.key.length ≤ 80) && (decide (t.value.length ≤ 1024) && (decide (t.digest.length = 0) && decide (t.kids.length = 2)))
  else if t.kind = 2 then decide (t.key.length ≤ 80) && (decide (t.value.length = 0) && decide (t.kids.length = 2))
  else if t.kind = 3 then decide (t.key.length + t.value.length + t.kids.length = 0)
  else false
mutual
def formedF : Tre → Bool
  | .mk k a b c ks => formed1 (.mk k a b c ks) && formedL ks
def formedL : List Tre → Bool
  | [] => true
  | t :: ts => formedF t && formedL ts
end
theorem formedL_all : ∀ (l : List Tre), formedL l = l.all formedF
  | [] => by simp [formedL]
  | t :: ts => by simp [formedL, formedL_all ts]
theorem formedF_eq (t : Tre) : formedF t = (formed1 t && t.kids.all formedF) := by
  cases t with
  | mk k a b c ks => rw [formedF, formedL_all]; rfl
mutual
def Tre.ok : Tre → Prop
  | .mk k a b c ks => a.length ≤ 2^50 ∧ b.length ≤ 2^50 ∧ c.length ≤ 2^50 ∧ ks.length ≤ 2^50 ∧ okL ks
def okL : List Tre → Prop
  | [] => True
  | t :: ts => t.ok ∧ okL ts
end
theorem okL_all : ∀ (l : List Tre), okL l ↔ ∀ t ∈ l, t.ok
  | [] => by simp [okL]
  | t :: ts => by simp [okL, okL_all ts]
theorem ok_eq (t : Tre) : t.ok ↔ t.key.length ≤ 2^50 ∧ t.value.length ≤ 2^50 ∧ t.digest.length ≤ 2^50 ∧ t.kids.length ≤ 2^50 ∧ ∀ k ∈ t.kids, k.ok := by
  cases t with
  | mk k a b c ks => rw [Tre.ok, okL_all]; rfl
theorem okF_deep1 : okF Tryd.prog n_tree_deep_1 = true := by kernel_rfl
theorem okF_formed1 : okF Tryd.prog n_tree_formed_1 = true := by kernel_rfl
theorem ld_b1 (o : AObj) (n : Int) (T : List AObj) : loadA false 1 (.ptr 1 1 0 0) (o :: .row 1 [.int .i64 n] :: T) = some (.int .i64 n) := Eq.trans rfl rfl
theorem new_i {β : Type} (n : Int) (H : List AObj) (K : AV → List AObj → List Nat → Option β) : newK (.int .i64 n) H K = K (.ptr H.length 1 0 0) (H ++ [.row 1 [.int .i64 n]]) [] := Eq.trans rfl rfl
theorem deep_ok (t : Tre) : t.ok → ∀ n : Int, 0 ≤ n → n < 2^62 → EV C n_tree_deep [t.av, .int .i64 n] [] = some (.bool (deepF t n), [], []) := by
  induction t using Tre.ind with
  | h t ih =>
    intro ht n h0 h1
    obtain ⟨_, _, _, hk, hks⟩ := (ok_eq t).1 ht
    have main : (t.isNode && decide (n < 1)) = false → (callK (EV C) false n_ContainsFunc_api_Tree [kidsA t.kids, .clo n_tree_deep_1 [] [.ptr 1 1 0 0]] [.row 5 [t.av], .row 1 [.int .i64 n]] fun a H1 E1 => endB false false 0 a H1 E1) = some (.bool (deepF t n), [], []) := fun hc => by
      rw [deepF_eq, hc, Bool.false_or]
      rw [callK_ptr (v := .bool (t.kids.any fun k => deepF k (n - 1))) (H' := [.row 5 [t.av], .row 1 [.int .i64 n]]) (frzL_cons (frz_good _ _ (good_kids _)) rfl) (by simp [belL, AV.bel]) (by simp [killsL, kills, kills_good _ (good_kids _)])
        (Contains_ptr (fun k => deepF k (n - 1)) (.ptr 1 1 0 0) ⟨_, _, _, _, rfl⟩ okF_deep1 t.kids (by omega) fun k hk => ?_)]
      · exact endB_good rfl
      · refine tree_deep_1_of ?_
        have hn : 1 ≤ n := by
          have : 0 < t.kids.length := by cases hx : t.kids with
            | nil => rw [hx] at hk; simp at hk
            | cons a b => simp
          have hnode : t.isNode = true := by simp [Tre.isNode, this]
          rw [hnode, Bool.true_and, decide_eq_false_iff_not] at hc
          omega
        have e1 : IntKind.i64.wrap (n - 1) = n - 1 := by rw [wrap64] <;> omega
        simp only [new_tr, List.length_cons, List.length_nil, List.cons_append, List.nil_append, Nat.reduceAdd, ld_tr2, ld_b1, Option.bind_some, sub_int, e1]
        rw [callK_ok (by simp) (ih k hk (hks k hk) (n - 1) (by omega) (by omega))]
        exact endB_keep (H := [.row 5 [t.av], .row 1 [.int .i64 n]]) (T := [.row 5 [k.av]]) rfl
    refine tree_deep_of ?_
    simp only [List.length_nil, new_tr, new_i, List.nil_append, List.length_singleton, List.cons_append, offA_ptr, Option.bind_some, Nat.zero_add, Nat.add_zero, ld_tr0_k, ld_tr0_s, ld_b1, eql_int, splitK_dec, lss_int, gtr_int, condK_dec, lenV_kids, List.append_nil]
    have tt : t.isNode = true → n < 1 → deepF t n = true := fun h h2 => by rw [deepF_eq, h]; simp [h2]
    split
    · rename_i hk1
      have hn : t.isNode = true := by simp [Tre.isNode, hk1]
      split
      · rename_i h2; rw [tt hn h2]; exact endB_good rfl
      · rename_i h2; exact main (by simp [h2])
    · rename_i hk1
      split
      · rename_i hk2
        have hn : t.isNode = true := by simp [Tre.isNode, hk2]
        split
        · rename_i h2; rw [tt hn h2]; exact endB_good rfl
        · rename_i h2; exact main (by simp [h2])
      · rename_i hk2
        split
        · rename_i hk3
          have hn : t.isNode = true := by simp [Tre.isNode]; omega
          split
          · rename_i h2; rw [tt hn h2]; exact endB_good rfl
          · rename_i h2; exact main (by simp [h2])
        · rename_i hk3
          exact main (by simp [Tre.isNode, hk1, hk2]; omega)
theorem formed_ok (t : Tre) : t.ok → EV C n_tree_formed [t.av] [] = some (.bool (formedF t), [], []) := by
  induction t using Tre.ind with
  | h t ih =>
    intro ht
    obtain ⟨ha, hb, hc, hk, hks⟩ := (ok_eq t).1 ht
    have CF : EV C n_ContainsFunc_api_Tree [kidsA t.kids, .clo n_tree_formed_1 [] []] [] = some (.bool (t.kids.any fun k => !formedF k), [], []) := by
      refine Contains_pure (fun k => !formedF k) okF_formed1 t.kids (by omega) fun k hk => ?_
      refine tree_formed_1_of ?_
      simp only [new_tr, List.length_nil, List.nil_append, ld_tr0, Option.bind_some]
      rw [callK_ok (by simp) (ih k hk (hks k hk))]
      simp only [not_bool, Option.bind_some]
      exact endB_good rfl
    have kk : (!t.kids.any fun k => !formedF k) = t.kids.all formedF := by
      induction t.kids with
      | nil => rfl
      | cons a l ih => simp [List.any_cons, List.all_cons, ih]
    have fin : formed1 t = true → ∀ E : List Nat, (callK (EV C) false n_ContainsFunc_api_Tree [kidsA t.kids, .clo n_tree_formed_1 [] []] [.row 5 [t.av]] fun a H1 E1 => (unA .not a).bind fun b => endB false false 0 b H1 E1) = some (.bool (formedF t), [], []) := fun h E => by
      rw [callK_ok (by simp) CF]
      simp only [not_bool, Option.bind_some, kk]
      rw [formedF_eq, h, Bool.true_and]
      exact endB_good rfl
    have bad : formed1 t = false → ∀ (H : List AObj) (E : List Nat), endB false false 0 (.bool false) H E = some (.bool (formedF t), [], []) := fun h H E => by
      rw [formedF_eq, h, Bool.false_and]
      exact endB_good rfl
    have s1 : IntKind.i64.wrap ((t.key.length : Int) + (t.value.length : Int)) = ((t.key.length + t.value.length : Nat) : Int) := w64 (by omega) (by omega)
    have s2 : IntKind.i64.wrap (((t.key.length + t.value.length : Nat) : Int) + (t.digest.length : Int)) = ((t.key.length + t.value.length + t.digest.length : Nat) : Int) := w64 (by omega) (by omega)
    have s3 : IntKind.i64.wrap (((t.key.length + t.value.length + t.digest.length : Nat) : Int) + (t.kids.length : Int)) = ((t.key.length + t.value.length + t.digest.length + t.kids.length : Nat) : Int) := w64 (by omega) (by omega)
    have s4 : IntKind.i64.wrap (((t.key.length + t.value.length : Nat) : Int) + (t.kids.length : Int)) = ((t.key.length + t.value.length + t.kids.length : Nat) : Int) := w64 (by omega) (by omega)
    refine tree_formed_of ?_
    simp only [List.length_nil, new_tr, List.nil_append, offA_ptr, Option.bind_some, Nat.zero_add, Nat.add_zero, ld_tr0_k, ld_tr0_a, ld_tr0_b, ld_tr0_c, ld_tr0_s, eql_int, splitK_dec, leq_int, condK_dec, lenV_kids, lenV_bys, List.append_nil, add_int, s1, s2, s3, s4]
    split
    · rename_i h0
      split
      · exact fin (by simp only [formed1, h0, if_true, decide_eq_true_eq]; omega) []
      · exact bad (by simp only [formed1, h0, if_true, decide_eq_false_iff_not]; omega) _ _
    · rename_i h0
      split
      · rename_i h1
        have f1 : formed1 t = (decide (t.key.length ≤ 80) && (decide (t.value.length ≤ 1024) && (decide (t.digest.length = 0) && decide (t.kids.length = 2)))) := by
          simp only [formed1]; rw [if_neg h0, if_pos h1]
        split
        · split
          · split
            · split
              · exact fin (by rw [f1]; simp only [Bool.and_eq_true, decide_eq_true_eq]; omega) []
              · exact bad (by rw [f1]; simp only [Bool.and_eq_false_iff, decide_eq_false_iff_not]; omega) _ _
            · exact bad (by rw [f1]; simp only [Bool.and_eq_false_iff, decide_eq_false_iff_not]; omega) _ _
          · exact bad (by rw [f1]; simp only [Bool.and_eq_false_iff, decide_eq_false_iff_not]; omega) _ _
        · exact bad (by rw [f1]; simp only [Bool.and_eq_false_iff, decide_eq_false_iff_not]; omega) _ _
      · rename_i h1
        split
        · rename_i h2
          have f1 : formed1 t = (decide (t.key.length ≤ 80) && (decide (t.value.length = 0) && decide (t.kids.length = 2))) := by
            simp only [formed1]; rw [if_neg h0, if_neg h1, if_pos h2]
          split
          · split
            · split
              · exact fin (by rw [f1]; simp only [Bool.and_eq_true, decide_eq_true_eq]; omega) []
              · exact bad (by rw [f1]; simp only [Bool.and_eq_false_iff, decide_eq_false_iff_not]; omega) _ _
            · exact bad (by rw [f1]; simp only [Bool.and_eq_false_iff, decide_eq_false_iff_not]; omega) _ _
          · exact bad (by rw [f1]; simp only [Bool.and_eq_false_iff, decide_eq_false_iff_not]; omega) _ _
        · rename_i h2
          split
          · rename_i h3
            have f1 : formed1 t = decide (t.key.length + t.value.length + t.kids.length = 0) := by
              simp only [formed1]; rw [if_neg h0, if_neg h1, if_neg h2, if_pos h3]
            split
            · exact fin (by rw [f1]; simp only [decide_eq_true_eq]; omega) []
            · exact bad (by rw [f1]; simp only [decide_eq_false_iff_not]; omega) _ _
          · rename_i h3
            exact bad (by simp only [formed1]; rw [if_neg h0, if_neg h1, if_neg h2, if_neg h3]) _ _
def checkF (t : Tre) : Int := if deepF t 64 = true then 5 else if formedF t = true then 0 else 3
def errA (n : Int) : AV := if n = 0 then .nili else codeA n
@[simp] theorem good_err (n : Int) : (errA n).good = true := by unfold errA; split <;> rfl
theorem Check_ok (t : Tre) (ht : t.ok) : EV C n_tree_Check [t.av] [] = some (errA (checkF t), [], []) := by
  refine tree_Check_of ?_
  simp only [List.length_nil, new_tr, List.nil_append, ld_tr0, Option.bind_some]
  rw [callK_ok (by simp) (deep_ok t ht 64 (by decide) (by decide))]
  cases hd : deepF t 64 with
  | true =>
    simp only [condK_t, checkF, hd, if_true]
    exact endB_good rfl
  | false =>
    simp only [condK_f, checkF, hd, Bool.false_eq_true, if_false, ld_tr0, Option.bind_some]
    rw [callK_ok (by simp) (formed_ok t ht)]
    cases hf : formedF t with
    | true => simp only [not_bool, Bool.not_true, Option.bind_some, condK_f, if_true]; exact endB_good rfl
    | false => simp only [not_bool, Bool.not_false, Option.bind_some, condK_t, Bool.false_eq_true, if_false]; exact endB_good rfl
end Go.Pm
