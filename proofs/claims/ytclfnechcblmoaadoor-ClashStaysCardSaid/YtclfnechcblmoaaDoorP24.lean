/- A part of the proof: what the functions of the program answer, as plain lists and numbers. -/
import Derived.Test.YtclfnechcblmoaaDoorP22
import Derived.Test.YtclfnechcblmoaaDoorP23
namespace Go.Pm
open Go.Proofs
set_option linter.unusedVariables false
set_option linter.unusedSimpArgs false
theorem cmpE : cmpT Tryd.prog t_api_Code = true := by kernel_rfl
theorem eqlE (ms : Array (String × TypeId)) (n m : Int) (hm : m ≠ 0) : binA .eql (.interface ms) (cmpT Tryd.prog) false (errA n) (.ifc t_api_Code (.int .i64 m)) = some (.bool (decide (n = m))) := by
  unfold errA
  split
  · rename_i h; subst h
    have : decide ((0 : Int) = m) = false := by simp; omega
    rw [this]; rfl
  · simp [codeA, binA, eqA, cmpE]
theorem eqlE0 (ms : Array (String × TypeId)) (c : TypeId → Bool) (n : Int) : binA .eql (.interface ms) c true (errA n) .nili = some (.bool (decide (n = 0))) := by
  unfold errA
  split
  · rename_i h; simp [h, binA, eqA]
  · rename_i h; simp [h, codeA, binA, eqA]
theorem neqE0 (ms : Array (String × TypeId)) (c : TypeId → Bool) (n : Int) : binA .neq (.interface ms) c true (errA n) .nili = some (.bool (!decide (n = 0))) := by
  unfold errA
  split
  · rename_i h; simp [h, binA, eqA]
  · rename_i h; simp [h, codeA, binA, eqA]
mutual
def searchF (w : Int) : Tre → Tre → Option (List UInt8 × List UInt8)
  | .mk k a b c ks, q =>
    if k = 3 ∨ q.kind = 3 then none
    else if ownF w (.mk k a b c ks) ≠ ownF w q then some (ownF w (.mk k a b c ks), ownF w q)
    else if k = 0 then none
    else if pairP w (.mk k a b c ks) ≠ pairP w q then some (pairP w (.mk k a b c ks), pairP w q)
    else if k = 1 ∧ q.kind = 1 ∧ b ≠ q.value then some (0 :: b, 0 :: q.value)
    else searchL w ks q.kids
def searchL (w : Int) : List Tre → List Tre → Option (List UInt8 × List UInt8)
  | p :: ps, q :: qs => match searchF w p q with
    | some r => some r
    | none => searchL w ps qs
  | _, _ => none
end
theorem searchF_eq (w : Int) (p q : Tre) : searchF w p q =
    if p.kind = 3 ∨ q.kind = 3 then none
    else if ownF w p ≠ ownF w q then some (ownF w p, ownF w q)
    else if p.kind = 0 then none
    else if pairP w p ≠ pairP w q then some (pairP w p, pairP w q)
    else if p.kind = 1 ∧ q.kind = 1 ∧ p.value ≠ q.value then some (0 :: p.value, 0 :: q.value)
    else searchL w p.kids q.kids := by
  cases p with
  | mk k a b c ks => rw [searchF]; rfl
def resS : Option (List UInt8 × List UInt8) → AV
  | some (a, b) => .tup [bys a, bys b, .bool true]
  | none => .tup [.lst [], .lst [], .bool false]
@[simp] theorem good_resS (x : Option (List UInt8 × List UInt8)) : (resS x).good = true := by
  cases x with
  | none => rfl
  | some p => obtain ⟨a, b⟩ := p; simp [resS]
theorem endN (H : List AObj) (E : List Nat) : endB false false 0 (.tup [.nils, .nils, .bool false]) H E = some (resS none, [], []) := endB_frz rfl rfl
theorem own_node {w : Int} {p q : Tre} {l r : Tre} (np : Nd w p l r) (hq : Gd w q) (hq3 : q.kind ≠ 3) (h : ownF w p = ownF w q) : ∃ l' r', Nd w q l' r' := by
  refine hq.node (fun h0 => ?_) hq3
  rw [np.own] at h
  unfold ownF at h
  rw [if_pos h0] at h
  simp [nodeF] at h
theorem search_ok (w : Int) (hw : wOk w = true) (p : Tre) : ∀ q, Gd w p → Gd w q → EV C n_clash_search [.int .i64 w, p.av, q.av] [] = some (resS (searchF w p q), [], []) := by
  induction p using Tre.ind with
  | h p ih =>
    intro q hp hq
    refine clash_search_of ?_
    simp only [List.length_nil, new_tr, List.nil_append, List.length_singleton, List.cons_append, offA_ptr, Option.bind_some, Nat.zero_add, Nat.add_zero, ld_tr0_k, ld_tr1_k, ld_tr0, ld_tr1, eql_int, splitK_dec, condK_dec]
    rw [searchF_eq]
    split
    · rename_i h; rw [if_pos (.inl h)]; exact endN _ _
    · rename_i hp3
      split
      · rename_i h; rw [if_pos (.inr h)]; exact endN _ _
      · rename_i hq3
        rw [if_neg (by omega)]
        rw [callK_ok (by simp) (parts_ok w hw p hp hp3)]
        simp only [extA_0, extA_1, Option.bind_some, ld_tr1]
        rw [callK_ok (by simp) (parts_ok w hw q hq hq3)]
        simp only [extA_0, extA_1, Option.bind_some]
        rw [callK_ok (by simp) (Equal_ok _ _)]
        by_cases ho : ownF w p = ownF w q
        · simp only [ho, decide_true, not_bool, Bool.not_true, Option.bind_some, condK_f, ne_eq, not_true_eq_false, if_false, ld_tr0_k, eql_int, condK_dec]
          split
          · exact endN _ _
          · rename_i hp0
            rw [callK_ok (by simp) (Equal_ok _ _)]
            by_cases hpp : pairP w p = pairP w q
            · obtain ⟨l, r, np⟩ := hp.node hp0 hp3
              obtain ⟨l', r', nq⟩ := own_node np hq hq3 ho
              have hv1 := np.value
              have hv2 := nq.value
              have x0 : ∀ H, ixA 5 (kidsA p.kids) (.int .i64 0) H = some (.ip l.av.cells) := fun H => ixA_kids (i := 0) (by rw [np.kids]; rfl)
              have x1 : ∀ H, ixA 5 (kidsA p.kids) (.int .i64 1) H = some (.ip r.av.cells) := fun H => ixA_kids (i := 1) (by rw [np.kids]; rfl)
              have y0 : ∀ H, ixA 5 (kidsA q.kids) (.int .i64 0) H = some (.ip l'.av.cells) := fun H => ixA_kids (i := 0) (by rw [nq.kids]; rfl)
              have y1 : ∀ H, ixA 5 (kidsA q.kids) (.int .i64 1) H = some (.ip r'.av.cells) := fun H => ixA_kids (i := 1) (by rw [nq.kids]; rfl)
              have il := ih l (by rw [np.kids]; simp) l' np.gl nq.gl
              have ir := ih r (by rw [np.kids]; simp) r' np.gr nq.gr
              have loop : ∀ E, clash_search_J14 0 (.int .i64 w) (.ptr 0 1 0 0) (.ptr 1 1 0 0) (.int .i64 ((p.kids.length : Nat) : Int)) (.int .i64 0) [.row 5 [p.av], .row 5 [q.av]] E = some (resS (searchL w p.kids q.kids), [], []) := fun E => by
                have e2 : ((p.kids.length : Nat) : Int) = 2 := by rw [np.kids]; rfl
                have w1 : IntKind.i64.wrap (0 + 1) = 1 := by decide
                have w2 : IntKind.i64.wrap (1 + 1) = 2 := by decide
                refine clash_search_J14_of ?_
                simp only [e2, lss_int, show ((0 : Int) < 2) from by decide, decide_true, Option.bind_some, condK_t, offA_ptr, Nat.zero_add, ld_tr0_s, ld_tr1_s, x0, y0, loadA_tr]
                rw [callD_ok (env := EV C) (by simp) il]
                have e3 : searchL w p.kids q.kids = (match searchF w l l' with | some r => some r | none => match searchF w r r' with | some r => some r | none => none) := by
                  rw [np.kids, nq.kids, searchL]
                  cases searchF w l l' with
                  | some x => rfl
                  | none =>
                    simp only [searchL]
                rw [e3]
                cases searchF w l l' with
                | some x =>
                  obtain ⟨a, b⟩ := x
                  simp only [resS, extA_0, extA_1, extA_2, Option.bind_some, condK_t]
                  exact endB_good (by simp)
                | none =>
                  simp only [resS, extA_0, extA_1, extA_2, Option.bind_some, condK_f, add_int, w1]
                  refine clash_search_J14_of ?_
                  simp only [lss_int, show ((1 : Int) < 2) from by decide, decide_true, Option.bind_some, condK_t, offA_ptr, Nat.zero_add, ld_tr0_s, ld_tr1_s, x1, y1, loadA_tr]
                  rw [callD_ok (env := EV C) (by simp) ir]
                  cases searchF w r r' with
                  | some x =>
                    obtain ⟨a, b⟩ := x
                    simp only [resS, extA_0, extA_1, extA_2, Option.bind_some, condK_t]
                    exact endB_good (by simp)
                  | none =>
                    simp only [resS, extA_0, extA_1, extA_2, Option.bind_some, condK_f, add_int, w2]
                    refine clash_search_J14_of ?_
                    simp only [lss_int, Int.lt_irrefl, decide_false, Option.bind_some, condK_f]
                    exact endN _ _
              simp only [hpp, decide_true, not_bool, Bool.not_true, Option.bind_some, condK_f, not_true_eq_false, if_false, ld_tr0_k, ld_tr1_k, ld_tr0_b, ld_tr1_b, ld_tr0_s, eql_int, splitK_dec, lenV_kids]
              by_cases hk1 : p.kind = 1
              · by_cases hk2 : q.kind = 1
                · simp only [hk1, hk2, if_true, true_and]
                  rw [callK_ok (by simp) (Equal_ok _ _)]
                  by_cases hvv : p.value = q.value
                  · simp only [hvv, decide_true, not_bool, Bool.not_true, Option.bind_some, condK_f, not_true_eq_false, if_false, ld_tr0_s, lenV_kids]
                    exact loop _
                  · simp only [hvv, decide_false, not_bool, Bool.not_false, Option.bind_some, condK_t, not_false_eq_true, if_true, ld_tr0_b, ld_tr1_b]
                    rw [callD_ok (env := EV C) (by simp) (Value_ok p.value (by omega)), callD_ok (env := EV C) (by simp) (Value_ok q.value (by omega))]
                    simp only [Option.bind_some]
                    exact endB_good (by simp)
                · simp only [hk1, hk2, if_true, if_false, false_and, and_false]
                  exact loop _
              · simp only [hk1, if_false, false_and]
                exact loop _
            · simp only [hpp, decide_false, not_bool, Bool.not_false, Option.bind_some, condK_t, not_false_eq_true, if_true]
              exact endB_good (by simp)
        · simp only [ho, decide_false, not_bool, Bool.not_false, Option.bind_some, condK_t, ne_eq, not_false_eq_true, if_true]
          exact endB_good (by simp)
def findF (w : Int) (p q : Tre) : Int × List UInt8 × List UInt8 :=
  if (digF w p).1 ≠ 0 then ((digF w p).1, [], [])
  else if (digF w q).1 ≠ 0 then ((digF w q).1, [], [])
  else if (digF w p).2 ≠ (digF w q).2 then (6, [], [])
  else match searchF w p q with
    | none => (9, [], [])
    | some (a, b) => (0, a, b)
def resFd (r : Int × List UInt8 × List UInt8) : AV := .tup [bys r.2.1, bys r.2.2, errA r.1]
@[simp] theorem good_resFd (r : Int × List UInt8 × List UInt8) : (resFd r).good = true := by simp [resFd]
theorem endF (n : Int) (H : List AObj) (E : List Nat) : endB false false 0 (.tup [.nils, .nils, errA n]) H E = some (resFd (n, [], []), [], []) :=
  endB_frz (frz_tup (frzL_cons rfl (frzL_cons rfl (frzL_cons (frz_good _ _ (good_err n)) rfl)))) (good_resFd (n, [], []))
theorem Find_ok (w : Int) (p q : Tre) (hp : p.ok) (hq : q.ok) : EV C n_clash_Find [.int .i64 w, p.av, q.av] [] = some (resFd (findF w p q), [], []) := by
  refine clash_Find_of ?_
  simp only [List.length_nil, new_tr, List.nil_append, List.length_singleton, List.cons_append, Option.bind_some, ld_tr0, ld_tr1]
  rw [callK_ok (by simp) (Digest_ok w p hp)]
  unfold findF
  by_cases e1 : (digF w p).1 = 0
  · simp only [resD, extA_0, extA_1, Option.bind_some, neqE0, e1, decide_true, Bool.not_true, condK_f, ne_eq, not_true_eq_false, if_false, ld_tr1]
    rw [callK_ok (by simp) (Digest_ok w q hq)]
    by_cases e2 : (digF w q).1 = 0
    · simp only [resD, extA_0, extA_1, Option.bind_some, neqE0, e2, decide_true, Bool.not_true, condK_f, not_true_eq_false, if_false]
      rw [callK_ok (by simp) (Equal_ok _ _)]
      obtain ⟨hw, gp, dp⟩ := gd_of hp e1
      obtain ⟨_, gq, dq⟩ := gd_of hq e2
      by_cases hd : (digF w p).2 = (digF w q).2
      · simp only [hd, decide_true, not_bool, Bool.not_true, Option.bind_some, condK_f, not_true_eq_false, if_false, ld_tr0, ld_tr1]
        rw [callK_ok (by simp) (search_ok w hw p q gp gq)]
        cases searchF w p q with
        | none =>
          simp only [resS, extA_0, extA_1, extA_2, Option.bind_some, not_bool, Bool.not_false, condK_t]
          exact endF 9 _ _
        | some x =>
          obtain ⟨a, b⟩ := x
          simp only [resS, extA_0, extA_1, extA_2, Option.bind_some, not_bool, Bool.not_true, condK_f]
          exact endB_good (v := resFd (0, a, b)) (by simp)
      · simp only [hd, decide_false, not_bool, Bool.not_false, Option.bind_some, condK_t, not_false_eq_true, if_true]
        exact endF 6 _ _
    · simp only [resD, extA_0, extA_1, Option.bind_some, neqE0, e2, decide_false, Bool.not_false, condK_t, not_false_eq_true, if_true]
      exact endF _ _ _
  · simp only [resD, extA_0, extA_1, Option.bind_some, neqE0, e1, decide_false, Bool.not_false, condK_t, ne_eq, not_false_eq_true, if_true]
    exact endF _ _ _
end Go.Pm
