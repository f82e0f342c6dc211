/- Soundness of regions whose operations come in any order, second part. -/
import Derived.Test.YtclfnechcblmoaaDoorPm19
namespace Go.Pm
set_option linter.unusedVariables false
set_option linter.unusedSimpArgs false
section
variable {P : Program} {G : Nat → Option (List AV)} {env : Env} {hh : Hint} {id : Nat} {ops : Array Oper}

/-! ### what stands ahead -/
theorem mem_insN {a x : Nat} {l : List Nat} (h : x ∈ insN a l) : x = a ∨ x ∈ l := by
  unfold insN at h
  split at h
  · exact .inr h
  · simpa using h
theorem mem_uniN {x : Nat} : ∀ {a b : List Nat}, x ∈ uniN a b → x ∈ a ∨ x ∈ b
  | [], b, h => .inr h
  | c :: a, b, h => by
    have h' : x ∈ insN c (uniN a b) := h
    rcases mem_insN h' with rfl | h'
    · exact .inl (by simp)
    · rcases mem_uniN h' with h' | h'
      · exact .inl (by simp [h'])
      · exact .inr h'
theorem mem_anc1 {x : Nat} {L : List (List Nat)} : ∀ {l : List Nat}, x ∈ l.foldr (fun j acc => uniN (j :: L.getD j []) acc) [] → ∃ j ∈ l, x = j ∨ x ∈ L.getD j []
  | [], h => by simp at h
  | j :: l, h => by
    simp only [List.foldr] at h
    rcases mem_uniN h with h | h
    · exact ⟨j, by simp, by simpa using h⟩
    · obtain ⟨k, hk, h⟩ := mem_anc1 h
      exact ⟨k, by simp [hk], h⟩
theorem ancL_len : ∀ n, (ancL ops n).length = n
  | 0 => rfl
  | n + 1 => by simp [ancL, ancL_len n]
theorem ancL_pre {i : Nat} : ∀ {n m : Nat}, n ≤ m → i < n → (ancL ops m).getD i [] = (ancL ops n).getD i [] := by
  intro n m h hi
  induction h with
  | refl => rfl
  | @step k hk ih =>
    rw [← ih]
    have hk' : n ≤ k := hk
    simp only [List.getD, ancL]
    rw [List.getElem?_append_left (by rw [ancL_len]; omega)]
theorem anc_step {i x : Nat} (hi : i < ops.size) (h : x ∈ (ancL ops ops.size).getD i []) : ∃ j ∈ bnd ops i, x = j ∨ x ∈ (ancL ops ops.size).getD j [] := by
  rw [ancL_pre (n := i + 1) (by omega) (by omega)] at h
  have e : (ancL ops (i + 1)).getD i [] = (bnd ops i).foldr (fun j acc => uniN (j :: (ancL ops i).getD j []) acc) [] := by
    simp only [List.getD, ancL]
    rw [List.getElem?_append_right (by rw [ancL_len]; omega), ancL_len]
    simp
  rw [e] at h
  obtain ⟨j, hj, h⟩ := mem_anc1 h
  refine ⟨j, hj, ?_⟩
  rcases h with h | h
  · exact .inl h
  · right
    by_cases hji : j < i
    · rw [ancL_pre (n := i) (by omega) hji]; exact h
    · simp only [List.getD] at h
      rw [List.getElem?_eq_none (by rw [ancL_len]; omega)] at h
      simp at h
theorem closed_anc {D : Nat → Prop} (hb : ∀ i, i < ops.size → D i → ∀ j ∈ bnd ops i, D j) (hlt : ∀ i, i < ops.size → ∀ j ∈ bnd ops i, j < i) :
    ∀ (i : Nat), i < ops.size → (∀ j ∈ bnd ops i, D j) → ∀ x ∈ (ancL ops ops.size).getD i [], D x := by
  intro i
  induction i using Nat.strongRecOn with
  | _ i ih =>
    intro hi hD x hx
    obtain ⟨j, hj, h⟩ := anc_step hi hx
    rcases h with rfl | h
    · exact hD x hj
    · have hji := hlt i hi j hj
      exact ih j hji (by omega) (hb j (by omega) (hD j hj)) x h

/-! ### the text's own order -/
theorem opsA_append {a b : List Oper} : ∀ {i : Nat} {s : St}, opsA P G env hh id ops (a ++ b) i s = (opsA P G env hh id ops a i s).bind fun s' => opsA P G env hh id ops b (i + a.length) s' := by
  induction a with
  | nil => intro i s; simp [opsA]
  | cons o a ih =>
    intro i s
    simp only [List.cons_append, opsA, List.length_cons, Option.bind_assoc]
    congr 1
    funext s'
    rw [ih, show i + 1 + a.length = i + (a.length + 1) by omega]
theorem stA_succ {s : St} {i : Nat} {o : Oper} (ho : ops[i]? = some o) : stA P G env hh id ops s (i + 1) = (stA P G env hh id ops s i).bind fun s' => opA P G env hh id ops i o s' := by
  unfold stA
  have hi : i < ops.toList.length := by have := (Array.getElem?_eq_some_iff.1 ho).1; simpa using this
  have hg : ops.toList[i]? = some o := by simpa using ho
  rw [List.take_add_one, hg, opsA_append]
  congr 1
  funext s'
  have hm : min i ops.size = i := Nat.min_eq_left (by have : ops.toList.length = ops.size := by simp
                                                      omega)
  simp [opsA, List.length_take, hm]
theorem stA_some {s s1 : St} (h : opsA P G env hh id ops ops.toList 0 s = some s1) : ∀ i, ∃ si, stA P G env hh id ops s i = some si := fun i => by
  unfold stA
  rw [← List.take_append_drop i ops.toList, opsA_append, Option.bind_eq_some_iff] at h
  obtain ⟨si, h1, _⟩ := h
  exact ⟨si, h1⟩

theorem putA_length (T : List AV) (d : Option Tmp) (v : AV) : (putA T d v).length = T.length := by cases d <;> simp [putA]
theorem putA_ne {T : List AV} {d : Option Tmp} {v : AV} {t : Nat} (h : d ≠ some t) : (putA T d v)[t]? = T[t]? := by
  cases d with
  | none => rfl
  | some d => simp only [putA]; rw [List.getElem?_set_ne (fun e => h (by rw [e]))]

/-- What the checks tell of the text's order. -/
structure Tr (P : Program) (G : Nat → Option (List AV)) (env : Env) (hh : Hint) (id : Nat) (ops : Array Oper) (st : Nat → St) (v : Nat → R3) : Prop where
  op : ∀ i o, ops[i]? = some o → valA P G env hh id ops i o (st i).T (st i).H = some (v i)
  nx : ∀ i o, ops[i]? = some o → st (i + 1) = ⟨putA (st i).T o.dst (v i).1, (v i).2.1, (v i).2.2 ++ (st i).E⟩
  rd : ∀ i o, ops[i]? = some o → isEv hh id i o = false → (v i).2 = ((st i).H, [])
  lo : ∀ i o e oe, ops[i]? = some o → isEv hh id i o = false → ops[e]? = some oe → isEv hh id e oe = true → e < i → e ∉ (ancL ops ops.size).getD i [] →
    valA P G env hh id ops i o (st i).T (st e).H = some ((v i).1, (st e).H, [])
  hi : ∀ i o e oe, ops[i]? = some o → isEv hh id i o = false → ops[e]? = some oe → isEv hh id e oe = true → i < e → i ∉ (ancL ops ops.size).getD e [] →
    valA P G env hh id ops i o (st i).T (st (e + 1)).H = some ((v i).1, (st (e + 1)).H, [])

theorem noH_val {i : Nat} {o : Oper} {T : List AV} {H : List AObj} {r : R3} (H' : List AObj) (hn : noH o = true) (ha : actOf hh id i = 0) (h : valA P G env hh id ops i o T H = some r) :
    r.2 = (H, []) ∧ valA P G env hh id ops i o T H' = some (r.1, H', []) := by
  unfold valA aop' at h ⊢
  rw [ha] at h ⊢
  simp only [Nat.reduceEqDiff, if_false] at h ⊢
  cases hw : wantA ops T o with
  | none => rw [hw] at h; cases h
  | some b =>
    rw [hw] at h
    cases b with
    | true => exact noH_ok H' hn h
    | false =>
      simp only [Option.some.injEq] at h
      subst h
      exact ⟨rfl, rfl⟩

theorem drawQ_self {i : Nat} {o : Oper} (ho : ops[i]? = some o) (he : isEv hh id i o = false) (hn : noH o = false) : (i, i) ∈ drawQ hh id ops := by
  have hi := (Array.getElem?_eq_some_iff.1 ho).1
  unfold drawQ
  simp only [List.mem_flatMap, List.mem_range]
  exact ⟨i, hi, by simp [ho, he, hn]⟩
theorem mem_evL {e : Nat} {oe : Oper} (ho : ops[e]? = some oe) (he : isEv hh id e oe = true) : e ∈ evL hh id ops := by
  have hi := (Array.getElem?_eq_some_iff.1 ho).1
  unfold evL
  simp only [List.mem_filter, List.mem_range]
  exact ⟨hi, by simp [ho, he]⟩
theorem drawQ_lo {i e : Nat} {o oe : Oper} (ho : ops[i]? = some o) (hv : isEv hh id i o = false) (hn : noH o = false) (hoe : ops[e]? = some oe) (he : isEv hh id e oe = true) (hlt : e < i)
    (ha : e ∉ (ancL ops ops.size).getD i []) : (i, e) ∈ drawQ hh id ops := by
  have hi := (Array.getElem?_eq_some_iff.1 ho).1
  unfold drawQ
  simp only [List.mem_flatMap, List.mem_range]
  refine ⟨i, hi, ?_⟩
  simp only [ho, hv, hn, Bool.or_self, Bool.false_eq_true, if_false, List.mem_cons, List.mem_filterMap]
  refine .inr ⟨e, mem_evL hoe he, ?_⟩
  simp only [hlt, if_true]
  rw [if_neg (by simpa using ha)]
theorem drawQ_hi {i e : Nat} {o oe : Oper} (ho : ops[i]? = some o) (hv : isEv hh id i o = false) (hn : noH o = false) (hoe : ops[e]? = some oe) (he : isEv hh id e oe = true) (hlt : i < e)
    (ha : i ∉ (ancL ops ops.size).getD e []) : (i, e + 1) ∈ drawQ hh id ops := by
  have hi := (Array.getElem?_eq_some_iff.1 ho).1
  unfold drawQ
  simp only [List.mem_flatMap, List.mem_range]
  refine ⟨i, hi, ?_⟩
  simp only [ho, hv, hn, Bool.or_self, Bool.false_eq_true, if_false, List.mem_cons, List.mem_filterMap]
  refine .inr ⟨e, mem_evL hoe he, ?_⟩
  rw [if_neg (by omega), if_neg (by simpa using ha)]
theorem ev_act {i : Nat} {o : Oper} (h : isEv hh id i o = false) : actOf hh id i = 0 ∨ (actOf hh id i = 8 ∧ ∃ t, o.op = .alloc t) := by
  unfold isEv at h
  simp only [Bool.or_eq_false_iff] at h
  have h2 := h.2
  split at h2
  · rename_i h0; exact .inl h0
  · rename_i h0
    split at h2
    · rename_i t ho; exact .inr ⟨h0, t, ho⟩
    · cases h2
  · cases h2
theorem ev_act0 {i : Nat} {o : Oper} (h : isEv hh id i o = false) (hn : noH o = true) : actOf hh id i = 0 := by
  rcases ev_act h with h | ⟨_, t, ho⟩
  · exact h
  · simp [noH, ho] at hn
theorem tr_ok {s s1 : St} (h : opsA P G env hh id ops ops.toList 0 s = some s1) (hd : ∀ p ∈ drawQ hh id ops, DrawAt P G env hh id ops s p) :
    ∃ st v, Tr P G env hh id ops st v ∧ st 0 = s ∧ st ops.size = s1 := by
  have hst := stA_some h
  let st : Nat → St := fun i => (hst i).choose
  have est : ∀ i, stA P G env hh id ops s i = some (st i) := fun i => (hst i).choose_spec
  have hop : ∀ i o, ops[i]? = some o → opA P G env hh id ops i o (st i) = some (st (i + 1)) := fun i o ho => by
    have := est (i + 1)
    rw [stA_succ ho, est i] at this
    exact this
  have hval : ∀ i, ∃ r : R3, ∀ o, ops[i]? = some o → valA P G env hh id ops i o (st i).T (st i).H = some r ∧ st (i + 1) = ⟨putA (st i).T o.dst r.1, r.2.1, r.2.2 ++ (st i).E⟩ := fun i => by
    cases ho : ops[i]? with
    | none => exact ⟨(.bad, [], []), fun o h => by cases h⟩
    | some o =>
      have h1 := hop i o ho
      rw [opA_val, Option.map_eq_some_iff] at h1
      obtain ⟨r, h1, h2⟩ := h1
      exact ⟨r, fun o' h' => by injection h' with h'; subst h'; exact ⟨h1, h2.symm⟩⟩
  let v : Nat → R3 := fun i => (hval i).choose
  have hv : ∀ i o, ops[i]? = some o → valA P G env hh id ops i o (st i).T (st i).H = some (v i) ∧ st (i + 1) = ⟨putA (st i).T o.dst (v i).1, (v i).2.1, (v i).2.2 ++ (st i).E⟩ := fun i o ho => (hval i).choose_spec o ho
  have hat : ∀ i j o, ops[i]? = some o → (i, j) ∈ drawQ hh id ops → (v i).2 = ((st i).H, []) ∧ valA P G env hh id ops i o (st i).T (st j).H = some ((v i).1, (st j).H, []) := fun i j o ho hm => by
    obtain ⟨o', si, sj, r, h1, h2, h3, h4, h5⟩ := hd _ hm
    simp only at h1 h2 h3 h4 h5
    rw [ho] at h1; injection h1 with h1; subst h1
    rw [est] at h2; injection h2 with h2; subst h2
    rw [est] at h3; injection h3 with h3; subst h3
    rw [(hv i o ho).1] at h4
    injection h4 with h4
    exact ⟨by rw [h4], by rw [h4]; exact h5⟩
  refine ⟨st, v, ⟨fun i o ho => (hv i o ho).1, fun i o ho => (hv i o ho).2, fun i o ho he => ?_, fun i o e oe ho he hoe hee hlt ha => ?_, fun i o e oe ho he hoe hee hlt ha => ?_⟩, ?_, ?_⟩
  · cases hn : noH o with
    | true => exact (noH_val (st i).H hn (ev_act0 he hn) (hv i o ho).1).1
    | false => exact (hat i i o ho (drawQ_self ho he hn)).1
  · cases hn : noH o with
    | true => exact (noH_val (st e).H hn (ev_act0 he hn) (hv i o ho).1).2
    | false => exact (hat i e o ho (drawQ_lo ho he hn hoe hee hlt ha)).2
  · cases hn : noH o with
    | true => exact (noH_val (st (e + 1)).H hn (ev_act0 he hn) (hv i o ho).1).2
    | false => exact (hat i (e + 1) o ho (drawQ_hi ho he hn hoe hee hlt ha)).2
  · have := est 0
    simp only [stA, List.take_zero, opsA, Option.some.injEq] at this
    exact this.symm
  · have := est ops.size
    unfold stA at this
    rw [List.take_of_length_le (by simp), h, Option.some.injEq] at this
    exact this.symm

section tr
variable {st : Nat → St} {v : Nat → R3}
theorem tr_len (ht : Tr P G env hh id ops st v) : ∀ i, i ≤ ops.size → (st i).T.length = (st 0).T.length
  | 0, _ => rfl
  | i + 1, hi => by
    have ho : ops[i]? = some ops[i] := Array.getElem?_eq_getElem (by omega)
    rw [ht.nx i _ ho, putA_length, tr_len ht i (by omega)]
theorem tr_T (ht : Tr P G env hh id ops st v) {t k : Nat} : ∀ (k' : Nat), k ≤ k' → k' ≤ ops.size → (∀ i o, k ≤ i → i < k' → ops[i]? = some o → o.dst ≠ some t) → (st k').T[t]? = (st k).T[t]?
  | 0, h, _, _ => by obtain rfl : k = 0 := by omega
                     rfl
  | k' + 1, h, hn, hw => by
    rcases Nat.lt_or_ge k (k' + 1) with hlt | hge
    · have ho : ops[k']? = some ops[k'] := Array.getElem?_eq_getElem (by omega)
      rw [ht.nx k' _ ho]
      simp only
      rw [putA_ne (hw k' _ (by omega) (by omega) ho)]
      exact tr_T ht k' (by omega) (by omega) fun i o h1 h2 h3 => hw i o h1 (by omega) h3
    · obtain rfl : k = k' + 1 := by omega
      rfl
theorem tr_H (ht : Tr P G env hh id ops st v) {k : Nat} : ∀ (k' : Nat), k ≤ k' → k' ≤ ops.size → (∀ i o, k ≤ i → i < k' → ops[i]? = some o → isEv hh id i o = false) → (st k').H = (st k).H ∧ (st k').E = (st k).E
  | 0, h, _, _ => by obtain rfl : k = 0 := by omega
                     exact ⟨rfl, rfl⟩
  | k' + 1, h, hn, hw => by
    rcases Nat.lt_or_ge k (k' + 1) with hlt | hge
    · have ho : ops[k']? = some ops[k'] := Array.getElem?_eq_getElem (by omega)
      have h2 := ht.rd k' _ ho (hw k' _ (by omega) (by omega) ho)
      obtain ⟨i1, i2⟩ := tr_H ht k' (by omega) (by omega) fun i o h1 h2 h3 => hw i o h1 (by omega) h3
      rw [ht.nx k' _ ho]
      simp only [h2, List.nil_append]
      exact ⟨i1, i2⟩
    · obtain rfl : k = k' + 1 := by omega
      exact ⟨rfl, rfl⟩
end tr

/-- Where a state stands that has done the operations D. -/
structure Inv (hh : Hint) (id : Nat) (ops : Array Oper) (st : Nat → St) (D : Nat → Prop) (s : St) : Prop where
  len : s.T.length = (st 0).T.length
  tm : ∀ t k, k ≤ ops.size → (∀ i o, ops[i]? = some o → o.dst = some t → (D i ↔ i < k)) → s.T[t]? = (st k).T[t]?
  hp : ∀ k, k ≤ ops.size → (∀ i o, ops[i]? = some o → isEv hh id i o = true → (D i ↔ i < k)) → s.H = (st k).H ∧ s.E = (st k).E

theorem drawS_spec (h : drawS hh id ops = true) :
    (∀ i, i < ops.size → ∀ j ∈ bnd ops i, j < i) ∧
    (∀ i j x y, i < j → ops[i]? = some x → ops[j]? = some y → i ∉ (ancL ops ops.size).getD j [] → x.apart ops y = true ∧ ¬ (isEv hh id i x = true ∧ isEv hh id j y = true)) := by
  unfold drawS at h
  simp only [List.all_eq_true, List.mem_range, Bool.and_eq_true, decide_eq_true_eq] at h
  refine ⟨fun i hi j hj => (h i hi).1 j hj, fun i j x y hij hx hy ha => ?_⟩
  have hj := (Array.getElem?_eq_some_iff.1 hy).1
  have := (h j hj).2 i hij
  simp only [hx, hy, Bool.or_eq_true, List.contains_eq_mem, decide_eq_true_eq, ha, false_or, Bool.and_eq_true, Bool.not_eq_true'] at this
  refine ⟨this.1, fun ⟨a, b⟩ => ?_⟩
  rw [a, b] at this
  simp at this

theorem least {p : Nat → Prop} (n : Nat) : (∃ k, k < n ∧ p k ∧ ∀ i, i < k → ¬ p i) ∨ ∀ i, i < n → ¬ p i := by
  induction n with
  | zero => exact .inr fun i hi => by omega
  | succ n ih =>
    rcases ih with ⟨k, h1, h2, h3⟩ | ih
    · exact .inl ⟨k, by omega, h2, h3⟩
    · by_cases hp : p n
      · exact .inl ⟨n, by omega, hp, ih⟩
      · exact .inr fun i hi => by
          rcases Nat.lt_or_ge i n with h | h
          · exact ih i h
          · obtain rfl : i = n := by omega
            exact hp
theorem greatest {p : Nat → Prop} (n : Nat) : (∃ k, k < n ∧ p k ∧ ∀ i, k < i → i < n → ¬ p i) ∨ ∀ i, i < n → ¬ p i := by
  induction n with
  | zero => exact .inr fun i hi => by omega
  | succ n ih =>
    by_cases hp : p n
    · exact .inl ⟨n, by omega, hp, fun i h1 h2 => by omega⟩
    · rcases ih with ⟨k, h1, h2, h3⟩ | ih
      · refine .inl ⟨k, by omega, h2, fun i h4 h5 => ?_⟩
        rcases Nat.lt_or_ge i n with h | h
        · exact h3 i h4 h
        · obtain rfl : i = n := by omega
          exact hp
      · exact .inr fun i hi => by
          rcases Nat.lt_or_ge i n with h | h
          · exact ih i h
          · obtain rfl : i = n := by omega
            exact hp

theorem inv_step {st : Nat → St} {v : Nat → R3} (ht : Tr P G env hh id ops st v) (hs : drawS hh id ops = true) {D : Nat → Prop} {s : St} (hI : Inv hh id ops st D s)
    (hc : ∀ i, i < ops.size → D i → ∀ j ∈ bnd ops i, D j) {i : Nat} {o : Oper} (ho : ops[i]? = some o) (hni : ¬ D i) (hb : ∀ j ∈ bnd ops i, D j) :
    ∃ s', opA P G env hh id ops i o s = some s' ∧ Inv hh id ops st (fun k => D k ∨ k = i) s' := by
  obtain ⟨hlt, hcmp⟩ := drawS_spec hs
  have hin : i < ops.size := (Array.getElem?_eq_some_iff.1 ho).1
  have hanc : ∀ j, j < ops.size → D j → ∀ x ∈ (ancL ops ops.size).getD j [], D x := fun j hj hD => closed_anc hc hlt j hj (hc j hj hD)
  have hai : ∀ x ∈ (ancL ops ops.size).getD i [], D x := closed_anc hc hlt i hin hb
  -- of two that are bound, none is done before its elder
  have before : ∀ j oj, ops[j]? = some oj → j < i → j ∈ (ancL ops ops.size).getD i [] → D j := fun j oj hj hji hm => hai j hm
  have behind : ∀ j oj, ops[j]? = some oj → i < j → i ∈ (ancL ops ops.size).getD j [] → ¬ D j := fun j oj hj hij hm hD => hni (hanc j (Array.getElem?_eq_some_iff.1 hj).1 hD i hm)
  -- the operands
  have hT : ∀ t ∈ o.looksAt ops, s.T[t]? = (st i).T[t]? := fun t htl => by
    refine hI.tm t i (by omega) fun j oj hj hd => ?_
    rcases Nat.lt_trichotomy j i with hji | rfl | hij
    · refine ⟨fun _ => hji, fun _ => ?_⟩
      by_cases hm : j ∈ (ancL ops ops.size).getD i []
      · exact before j oj hj hji hm
      · exact absurd htl ((Oper.apart_spec (hcmp j i oj o hji hj ho hm).1).1 t hd)
    · exact ⟨fun h => absurd h hni, fun h => absurd h (by omega)⟩
    · refine ⟨fun h => ?_, fun h => by omega⟩
      by_cases hm : i ∈ (ancL ops ops.size).getD j []
      · exact absurd h (behind j oj hj hij hm)
      · exact absurd htl ((Oper.apart_spec (hcmp i j o oj hij ho hj hm).1).2.2 t hd)
  -- the temporaries behind it
  have hTn : ∀ (T' : List AV), T' = putA s.T o.dst (v i).1 → ∀ t k, k ≤ ops.size → (∀ j oj, ops[j]? = some oj → oj.dst = some t → ((D j ∨ j = i) ↔ j < k)) → T'[t]? = (st k).T[t]? := fun T' hT' t k hk hw => by
    subst hT'
    by_cases hd : o.dst = some t
    · have hik : i < k := (hw i o ho hd).1 (.inr rfl)
      have e1 : (st k).T[t]? = (st (i + 1)).T[t]? := by
        refine tr_T ht k (by omega) hk fun j oj h1 h2 hj hdj => ?_
        rcases (hw j oj hj hdj).2 h2 with hD | rfl
        · by_cases hm : i ∈ (ancL ops ops.size).getD j []
          · exact behind j oj hj (by omega) hm hD
          · exact absurd hdj ((Oper.apart_spec (hcmp i j o oj (by omega) ho hj hm).1).2.1 t hd)
        · omega
      rw [e1, ht.nx i o ho]
      simp only [hd, putA]
      by_cases htl : t < s.T.length
      · rw [List.getElem?_set_self htl, List.getElem?_set_self (by rw [tr_len ht i (by omega), ← hI.len]; exact htl)]
      · have l1 := tr_len ht i (by omega)
        have l2 := hI.len
        have htl' : s.T.length ≤ t := Nat.le_of_not_lt htl
        have a1 : (s.T.set t (v i).1).length ≤ t := by rw [List.length_set]; omega
        have a2 : ((st i).T.set t (v i).1).length ≤ t := by rw [List.length_set]; omega
        rw [List.getElem?_eq_none a1, List.getElem?_eq_none a2]
    · rw [putA_ne hd]
      refine hI.tm t k hk fun j oj hj hdj => ?_
      rw [← hw j oj hj hdj]
      exact ⟨.inl, fun h => h.elim (fun x => x) fun e => by subst e; rw [ho] at hj; injection hj with hj; subst hj; exact absurd hdj hd⟩
  cases hev : isEv hh id i o with
  | true =>
    obtain ⟨eH, eE⟩ := hI.hp i (by omega) fun j oj hj he => by
      rcases Nat.lt_trichotomy j i with hji | rfl | hij
      · refine ⟨fun _ => hji, fun _ => ?_⟩
        by_cases hm : j ∈ (ancL ops ops.size).getD i []
        · exact before j oj hj hji hm
        · exact absurd ⟨he, hev⟩ (hcmp j i oj o hji hj ho hm).2
      · exact ⟨fun h => absurd h hni, fun h => absurd h (by omega)⟩
      · refine ⟨fun h => ?_, fun h => by omega⟩
        by_cases hm : i ∈ (ancL ops ops.size).getD j []
        · exact absurd h (behind j oj hj hij hm)
        · exact absurd ⟨hev, he⟩ (hcmp i j o oj hij ho hj hm).2
    refine ⟨⟨putA s.T o.dst (v i).1, (v i).2.1, (v i).2.2 ++ s.E⟩, ?_, ⟨by rw [putA_length]; exact hI.len, hTn _ rfl, fun k hk hw => ?_⟩⟩
    · rw [opA_val, valA_congr (ops := ops) hT, eH, ht.op i o ho]; rfl
    · have hik : i < k := (hw i o ho hev).1 (.inr rfl)
      have e := tr_H ht (k := i + 1) k (by omega) hk fun j oj h1 h2 hj => by
        cases he : isEv hh id j oj with
        | false => rfl
        | true =>
          exfalso
          rcases (hw j oj hj he).2 h2 with hD | rfl
          · by_cases hm : i ∈ (ancL ops ops.size).getD j []
            · exact behind j oj hj (by omega) hm hD
            · exact absurd ⟨hev, he⟩ (hcmp i j o oj (by omega) ho hj hm).2
          · omega
      rw [e.1, e.2, ht.nx i o ho, ← eE]
      exact ⟨rfl, rfl⟩
  | false =>
    -- how many of those that change the heap are done
    have hk : ∃ k, k ≤ ops.size ∧ (∀ j oj, ops[j]? = some oj → isEv hh id j oj = true → (D j ↔ j < k)) := by
      rcases least (p := fun j => ∃ oj, ops[j]? = some oj ∧ isEv hh id j oj = true ∧ ¬ D j) ops.size with ⟨k, h1, ⟨ok, h2, h3, h4⟩, h5⟩ | h
      · refine ⟨k, by omega, fun j oj hj he => ⟨fun hD => ?_, fun hjk => ?_⟩⟩
        · rcases Nat.lt_trichotomy j k with h | rfl | h
          · exact h
          · exact absurd hD h4
          · by_cases hm : k ∈ (ancL ops ops.size).getD j []
            · exact absurd (hanc j (Array.getElem?_eq_some_iff.1 hj).1 hD k hm) h4
            · exact absurd ⟨h3, he⟩ (hcmp k j ok oj h h2 hj hm).2
        · exact Classical.byContradiction fun hD => h5 j hjk ⟨oj, hj, he, hD⟩
      · refine ⟨ops.size, by omega, fun j oj hj he => ⟨fun _ => (Array.getElem?_eq_some_iff.1 hj).1, fun hjn => ?_⟩⟩
        exact Classical.byContradiction fun hD => h j hjn ⟨oj, hj, he, hD⟩
    obtain ⟨k, hkn, hkD⟩ := hk
    obtain ⟨eH, eE⟩ := hI.hp k hkn hkD
    have hv : valA P G env hh id ops i o (st i).T s.H = some ((v i).1, s.H, []) := by
      have hself : valA P G env hh id ops i o (st i).T (st i).H = some ((v i).1, (st i).H, []) := by
        rw [ht.op i o ho]
        have := ht.rd i o ho hev
        rw [← this]
      rcases Nat.lt_or_ge i k with hik | hki
      · -- some are done that stand behind it
        rcases greatest (p := fun j => i < j ∧ ∃ oj, ops[j]? = some oj ∧ isEv hh id j oj = true) k with ⟨e, h1, ⟨h2, oe, h3, h4⟩, h5⟩ | h
        · have hD : D e := (hkD e oe h3 h4).2 h1
          have hm : i ∉ (ancL ops ops.size).getD e [] := fun hm => behind e oe h3 h2 hm hD
          have := ht.hi i o e oe ho hev h3 h4 h2 hm
          have e1 := (tr_H ht (k := e + 1) k (by omega) hkn fun j oj g1 g2 hj => by
            cases he : isEv hh id j oj with
            | false => rfl
            | true => exact absurd ⟨by omega, oj, hj, he⟩ (h5 j (by omega) g2)).1
          rw [eH, e1]; exact this
        · have e1 := (tr_H ht (k := i) k (by omega) hkn fun j oj g1 g2 hj => by
            cases he : isEv hh id j oj with
            | false => rfl
            | true =>
              rcases Nat.lt_or_ge i j with hij | hij
              · exact absurd ⟨hij, oj, hj, he⟩ (h j g2)
              · obtain rfl : j = i := by omega
                rw [ho] at hj; injection hj with hj; subst hj; rw [hev] at he; cases he).1
          rw [eH, e1]; exact hself
      · rcases least (p := fun j => k ≤ j ∧ ∃ oj, ops[j]? = some oj ∧ isEv hh id j oj = true) i with ⟨e, h1, ⟨h2, oe, h3, h4⟩, h5⟩ | h
        · have hD : ¬ D e := fun hD => by have := (hkD e oe h3 h4).1 hD; omega
          have hm : e ∉ (ancL ops ops.size).getD i [] := fun hm => hD (hai e hm)
          have := ht.lo i o e oe ho hev h3 h4 h1 hm
          have e1 := (tr_H ht (k := k) e h2 (by omega) fun j oj g1 g2 hj => by
            cases he : isEv hh id j oj with
            | false => rfl
            | true => exact absurd ⟨g1, oj, hj, he⟩ (h5 j g2)).1
          rw [eH, ← e1]; exact this
        · have e1 := (tr_H ht (k := k) i hki (by omega) fun j oj g1 g2 hj => by
            cases he : isEv hh id j oj with
            | false => rfl
            | true => exact absurd ⟨g1, oj, hj, he⟩ (h j g2)).1
          rw [eH, ← e1]; exact hself
    refine ⟨⟨putA s.T o.dst (v i).1, s.H, s.E⟩, ?_, ⟨by rw [putA_length]; exact hI.len, hTn _ rfl, fun k' hk' hw => ?_⟩⟩
    · rw [opA_val, valA_congr (ops := ops) hT, hv]; rfl
    · refine hI.hp k' hk' fun j oj hj he => ?_
      rw [← hw j oj hj he]
      exact ⟨.inl, fun h => h.elim (fun x => x) fun e => by subst e; rw [ho] at hj; injection hj with hj; subst hj; rw [hev] at he; cases he⟩

def dn (listed : Array Bool) (i : Nat) : Prop := listed.getD i false = true
theorem dn_set {listed : Array Bool} {i : Nat} (hi : i < listed.size) (k : Nat) : dn (listed.setIfInBounds i true) k ↔ dn listed k ∨ k = i := by
  unfold dn
  by_cases h : k = i
  · subst h; simp [hi]
  · simp [Array.getElem?_setIfInBounds_ne (Ne.symm h), h]
theorem mem_bnd {i j : Nat} {o : Oper} (ho : ops[i]? = some o) : j ∈ bnd ops i ↔ ∃ e ∈ o.after, Region.binds .any e = true ∧ e.on = j := by
  unfold bnd
  rw [ho]
  simp only [List.mem_map, List.mem_filter, Array.mem_toList_iff]
  exact ⟨fun ⟨e, ⟨h1, h2⟩, h3⟩ => ⟨e, h1, h2, h3⟩, fun ⟨e, h1, h2, h3⟩ => ⟨e, ⟨h1, h2⟩, h3⟩⟩
theorem Inv.congr {st : Nat → St} {D D' : Nat → Prop} {s : St} (h : Inv hh id ops st D s) (e : ∀ k, D' k ↔ D k) : Inv hh id ops st D' s :=
  ⟨h.len, fun t k hk hw => h.tm t k hk fun i o ho hd => (e i).symm.trans (hw i o ho hd), fun k hk hw => h.hp k hk fun i o ho hd => (e i).symm.trans (hw i o ho hd)⟩

/-- how many are not done -/
def left (listed : Array Bool) : Nat := listed.toList.countP (· == false)
theorem left_set {listed : Array Bool} {i : Nat} (hi : i < listed.size) (h : ¬ dn listed i) : left (listed.setIfInBounds i true) + 1 = left listed := by
  have hf : listed[i] = false := by
    unfold dn at h
    simp only [Array.getD_eq_getD_getElem?, Array.getElem?_eq_getElem hi, Option.getD_some, Bool.not_eq_true] at h
    exact h
  unfold left
  rw [Array.toList_setIfInBounds]
  have hi' : i < listed.toList.length := by simpa using hi
  rw [List.countP_set hi']
  have hg : listed.toList[i] = false := by simpa using hf
  have hpos : 0 < listed.toList.countP (· == false) := List.countP_pos_iff.2 ⟨listed.toList[i], List.getElem_mem hi', by rw [hg]; rfl⟩
  rw [hg]
  have e1 : ((false == false) = true) := rfl
  have e2 : ¬ ((true == false) = true) := by decide
  rw [if_pos e1, if_neg e2]
  omega
theorem left_zero {listed : Array Bool} (h : left listed = 0) {i : Nat} (hi : i < listed.size) : dn listed i := by
  unfold left at h
  rw [List.countP_eq_zero] at h
  have hi' : i < listed.toList.length := by simpa using hi
  have := h _ (List.getElem_mem hi')
  unfold dn
  simp only [Array.getElem_toList, beq_iff_eq, Bool.not_eq_false] at this
  simp [hi, this]

theorem any_ok (henv : EnvOk P G env) {st : Nat → St} {v : Nat → R3} (ht : Tr P G env hh id ops st v) (hs : drawS hh id ops = true) {Q : Exit → Act → World → Prop} :
    ∀ (fuel : Nat) (listed : Array Bool) (X : Cx) (a : Act) (s : St), listed.size = ops.size → left listed ≤ fuel → X.H = s.H → Rel G X → Ms X s.T a.tmps.toList → Inv hh id ops st (dn listed) s →
    (∀ i, i < ops.size → dn listed i → ∀ j ∈ bnd ops i, dn listed j) →
    (∀ X1 a1 N, X1.H = (st ops.size).H → Rel G X1 → Ext X X1 → (st ops.size).E = N ++ s.E → EscI X.H X1.H N → Ms X1 (st ops.size).T a1.tmps.toList → a1.defers = a.defers → Q .normal a1 X1.w) →
    wpAny P .any ops Q fuel listed a X.w := by
  intro fuel
  have hall : ∀ (listed : Array Bool) (X : Cx) (a : Act) (s : St), listed.size = ops.size → X.H = s.H → Rel G X → Ms X s.T a.tmps.toList → Inv hh id ops st (dn listed) s → (∀ i, i < ops.size → dn listed i) →
      (∀ X1 a1 N, X1.H = (st ops.size).H → Rel G X1 → Ext X X1 → (st ops.size).E = N ++ s.E → EscI X.H X1.H N → Ms X1 (st ops.size).T a1.tmps.toList → a1.defers = a.defers → Q .normal a1 X1.w) →
      Q .normal a X.w := fun listed X a s hsz hH hR hF hI hd hQ => by
    obtain ⟨e1, e2⟩ := hI.hp ops.size (Nat.le_refl _) fun i o ho _ => by
      have := (Array.getElem?_eq_some_iff.1 ho).1
      exact ⟨fun _ => this, fun _ => hd i this⟩
    have e3 : s.T = (st ops.size).T := by
      apply List.ext_getElem?
      intro t
      exact hI.tm t ops.size (Nat.le_refl _) fun i o ho _ => by
        have := (Array.getElem?_eq_some_iff.1 ho).1
        exact ⟨fun _ => this, fun _ => hd i this⟩
    exact hQ X a [] (hH.trans e1) hR (Ext.refl X) (by rw [e2]; rfl) (EscI.refl _) (by rw [← e3]; exact hF) rfl
  have hready : ∀ (listed : Array Bool), listed.size = ops.size → Region.ready .any ops listed = [] → ∀ i, i < ops.size → dn listed i := fun listed hsz hr => by
    obtain ⟨hlt, _⟩ := drawS_spec hs
    intro i
    induction i using Nat.strongRecOn with
    | _ i ih =>
      intro hi
      exact Classical.byContradiction fun hn => by
        have ho : ops[i]? = some ops[i] := Array.getElem?_eq_getElem hi
        have : i ∈ Region.ready .any ops listed := mem_ready.2 ⟨by
          unfold dn at hn
          simp only [Array.getD_eq_getD_getElem?, Array.getElem?_eq_getElem (show i < listed.size by omega), Option.getD_some, Bool.not_eq_true] at hn ⊢
          exact hn, _, ho, fun e he hb => by
            have hj : e.on ∈ bnd ops i := (mem_bnd ho).2 ⟨e, he, hb, rfl⟩
            have hji := hlt i hi _ hj
            exact ih _ hji (by omega)⟩
        rw [hr] at this
        cases this
  induction fuel with
  | zero =>
    intro listed X a s hsz hl hH hR hF hI hc hQ
    have hd : ∀ i, i < ops.size → dn listed i := fun i hi => left_zero (by omega) (by omega)
    refine ⟨?_, hall listed X a s hsz hH hR hF hI hd hQ⟩
    cases hr : Region.ready .any ops listed with
    | nil => rfl
    | cons i is =>
      exfalso
      have hm : i ∈ Region.ready .any ops listed := by rw [hr]; simp
      obtain ⟨h1, o, ho, _⟩ := mem_ready.1 hm
      have hi := (Array.getElem?_eq_some_iff.1 ho).1
      have := hd i hi
      unfold dn at this
      simp only [Array.getD_eq_getD_getElem?, Array.getElem?_eq_getElem (show i < listed.size by omega), Option.getD_some] at this h1
      rw [this] at h1; cases h1
  | succ fuel ih =>
    intro listed X a s hsz hl hH hR hF hI hc hQ
    refine ⟨fun hr => hall listed X a s hsz hH hR hF hI (hready listed hsz hr) hQ, fun i hi => ?_⟩
    obtain ⟨h1, o, ho, h2⟩ := mem_ready.1 hi
    have hin := (Array.getElem?_eq_some_iff.1 ho).1
    have hni : ¬ dn listed i := fun h => by
      unfold dn at h
      simp only [Array.getD_eq_getD_getElem?, Array.getElem?_eq_getElem (show i < listed.size by omega), Option.getD_some] at h h1
      rw [h] at h1; cases h1
    obtain ⟨s', g1, g2⟩ := inv_step ht hs hI hc ho hni (fun j hj => by
      obtain ⟨e, he, hb, rfl⟩ := (mem_bnd ho).1 hj
      exact h2 e he hb)
    have hls := left_set (show i < listed.size by omega) hni
    refine step_ok henv ho hH hR hF g1 fun X1 a1 N e1 e2 e3 e4 e5 e6 e7 => ?_
    refine ih _ X1 a1 s' (by simp [hsz]) (by omega) e1 e2 e6 (g2.congr fun k => dn_set (by omega) k) (fun k hk hd j hj => ?_) fun X2 a2 N2 f1 f2 f3 f4 f5 f6 f7 => ?_
    · rw [dn_set (by omega)] at hd ⊢
      rcases hd with hd | rfl
      · exact .inl (hc k hk hd j hj)
      · obtain ⟨e, he, hb, rfl⟩ := (mem_bnd ho).1 hj
        exact .inl (h2 e he hb)
    · exact hQ X2 a2 (N2 ++ N) f1 f2 (e3.trans f3) (by rw [f4, e4, List.append_assoc]) (e5.trans f5) f6 (f7.trans e7)

theorem draw_ok {X : Cx} {a : Act} (henv : EnvOk P G env) {Q : Exit → Act → World → Prop} {s s1 : St} (hH : X.H = s.H) (hR : Rel G X) (hF : Ms X s.T a.tmps.toList) (h : opsA P G env hh id ops ops.toList 0 s = some s1) (hd : DrawOk P G env hh id ops s)
    (hQ : ∀ X1 a1 N, X1.H = s1.H → Rel G X1 → Ext X X1 → s1.E = N ++ s.E → EscI X.H X1.H N → Ms X1 s1.T a1.tmps.toList → a1.defers = a.defers → Q .normal a1 X1.w) : (Code.region id ops true).wp P Q a X.w := by
  obtain ⟨hm, hs, hp⟩ := hd
  obtain ⟨st, v, ht, rfl, rfl⟩ := tr_ok h hp
  refine wp_region_any hm ?_
  obtain ⟨k1, k2, k3⟩ := world_ok hR (w' := { X.w with drawn := X.w.drawn + 1 }) rfl rfl rfl rfl
  have hno : ∀ i, ¬ dn (Array.replicate ops.size false) i := fun i h => by
    unfold dn at h
    simp only [Array.getD_eq_getD_getElem?, Array.getElem?_replicate] at h
    split at h <;> simp at h
  refine any_ok henv ht hs ops.size (Array.replicate ops.size false) ⟨X.F, X.ι, X.H, _⟩ a (st 0) (by simp) ?_ hH k1 (Ms_mono k2 _ _ hF) ⟨rfl, fun t k hk hw => ?_, fun k hk hw => ?_⟩ (fun i hi h => absurd h (hno i)) fun X1 a1 N f1 f2 f3 f4 f5 f6 f7 => ?_
  · unfold left
    rw [Array.toList_replicate]
    exact Nat.le_trans List.countP_le_length (by simp)
  · refine (tr_T ht k (by omega) hk fun i o h1 h2 h3 h4 => ?_).symm
    exact hno i ((hw i o h3 h4).2 h2)
  · have := tr_H ht (k := 0) k (by omega) hk fun i o h1 h2 h3 => by
      cases he : isEv hh id i o with
      | false => rfl
      | true => exact absurd ((hw i o h3 he).2 h2) (hno i)
    exact ⟨this.1.symm, this.2.symm⟩
  · exact hQ X1 a1 N f1 f2 (k2.trans f3) f4 f5 f6 f7
end
end Go.Pm
