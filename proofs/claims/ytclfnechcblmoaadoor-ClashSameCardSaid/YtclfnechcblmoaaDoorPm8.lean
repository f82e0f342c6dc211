/- Soundness, part 5: operations that only compute. -/
import Derived.Test.YtclfnechcblmoaaDoorPm7
namespace Go.Pm
set_option linter.unusedVariables false
set_option linter.unusedSimpArgs false
section
variable {P : Program} {G : Nat → Option (List AV)} {X : Cx} {o : Oper} {a : Act} {T : List AV}

theorem same_some {H : List AObj} {v : Option AV} {r : R3} (h : same H v = some r) : ∃ x, v = some x ∧ r = (x, H, []) := by
  unfold same at h
  simp only [Option.map_eq_some_iff] at h
  obtain ⟨x, hx, rfl⟩ := h
  exact ⟨x, hx, rfl⟩

theorem M_int {k : IntKind} {n : Int} {u : Value} : M X (.int k n) u ↔ u = .int k n := by unfold M; rfl
theorem M_bool {b : Bool} {u : Value} : M X (.bool b) u ↔ u = .bool b := by unfold M; rfl
theorem M_str {b : ByteArray} {u : Value} : M X (.str b) u ↔ u = .string b := by unfold M; rfl
theorem M_nilp {u : Value} : M X .nilp u ↔ u = .pointer none := by unfold M; rfl
theorem M_nils {u : Value} : M X .nils u ↔ u = .slice none 0 0 := by unfold M; rfl
theorem M_nili {u : Value} : M X .nili u ↔ u = .nilIface := by unfold M; rfl
theorem M_ip {cs : List AV} {u : Value} (h : M X (.ip cs) u) : ∃ b o, u = .pointer (some ⟨b, o, none⟩) ∧ X.im b ∧ Mc X cs b o := by unfold M at h; exact h
theorem M_lst {es : List AV} {u : Value} (h : M X (.lst es) u) : ∃ A c, u = .slice A es.length c ∧ es.length ≤ c ∧ oneL es ∧ (es ≠ [] → ∃ b o z, A = some ⟨b, o, none⟩ ∧ 0 < z ∧ X.im b ∧ Me X es b o z) := by unfold M at h; exact h
theorem M_ifc {t : TypeId} {v : AV} {u : Value} (h : M X (.ifc t v) u) : ∃ p, u = .iface t p ∧ M X v p := by unfold M at h; exact h
theorem M_agg {cs : List AV} {u : Value} (h : M X (.agg cs) u) : ∃ vs, u = .agg vs ∧ Ms X cs vs.toList := by unfold M at h; exact h
theorem M_tup {cs : List AV} {u : Value} (h : M X (.tup cs) u) : ∃ vs, u = .tuple vs ∧ Ms X cs vs.toList := by unfold M at h; exact h

theorem isInt_some {t : TypeId} (h : isInt P t = true) : ∃ k, P.underlying t = some (.int k) := by
  unfold isInt at h
  split at h
  · exact ⟨_, ‹_›⟩
  · cases h
theorem run_guard {op : BinOp} {xt : TypeId} {ox oy : Operand} {p q : Value} (h1 : p ≠ .nilIface) (h2 : ∀ c, p ≠ .agg c) :
    (eqGuard op xt ox oy p q).run P X.w = .ok () X.w := by
  unfold eqGuard
  cases op <;> simp <;> (cases p <;> cases q <;> simp_all)
theorem run_guard_nil {op : BinOp} {xt : TypeId} {ox oy : Operand} {q : Value} (h1 : q = .nilIface → (isCst ox || isCst oy) = true) :
    (eqGuard op xt ox oy .nilIface q).run P X.w = .ok () X.w := by
  unfold eqGuard
  by_cases hq : q = .nilIface
  · subst hq
    have h := h1 rfl
    cases op <;> simp <;> cases ox <;> cases oy <;> simp_all [isCst]
  · cases op <;> simp <;> cases q <;> simp_all

theorem str_ok {op : BinOp} {xt : TypeId} {ox oy : Operand} {s t : ByteArray} {v : AV} {d : TypeDesc} {cmp : TypeId → Bool} {c : Bool} (h : binA op d cmp c (.str s) (.str t) = some v) :
    ∃ u, ((do eqGuard op xt ox oy (.string s) (.string t); binOp op xt (.string s) (.string t) : Sem Value)).run P X.w = .ok u X.w ∧ M X v u := by
  have hg := run_guard (P := P) (X := X) (op := op) (xt := xt) (ox := ox) (oy := oy) (p := .string s) (q := .string t) (by simp) (by simp)
  rw [Sem.run_bind, hg, Result.andThen_ok]
  have e1 : (s.toList == t.toList) = decide (bl s = bl t) := by
    unfold bl; rw [ByteArray.toList_eq, ByteArray.toList_eq, Bool.eq_iff_iff]; simp
  have e2 : bl s = s.toList := by rw [ByteArray.toList_eq]; rfl
  have e3 : bl t = t.toList := by rw [ByteArray.toList_eq]; rfl
  cases op <;> simp only [binA] at h <;> try cases h
  case add =>
    split at h
    · rename_i hl
      injection h with h; subst h
      exact ⟨_, by simp [binOp, Op.stringOp, IntKind.max, IntKind.signed, IntKind.bits]; omega, M_str.2 rfl⟩
    · cases h
  case lss => exact ⟨_, by simp only [binOp, Op.stringOp, Sem.run_pure]; rfl, M_bool.2 (by rw [e2, e3])⟩
  case geq => exact ⟨_, by simp only [binOp, Op.stringOp, Sem.run_pure]; rfl, M_bool.2 (by rw [e2, e3])⟩
  all_goals exact ⟨_, by simp only [binOp, Op.stringOp, Sem.run_pure]; rfl, M_bool.2 (by rw [e1, e2, e3])⟩
theorem int_ok {op : BinOp} {xt : TypeId} {ox oy : Operand} {k k' : IntKind} {m n : Int} {v : AV} {d : TypeDesc} {cmp : TypeId → Bool} {c : Bool} (h : binA op d cmp c (.int k m) (.int k' n) = some v) :
    ∃ u, ((do eqGuard op xt ox oy (.int k m) (.int k' n); binOp op xt (.int k m) (.int k' n) : Sem Value)).run P X.w = .ok u X.w ∧ M X v u := by
  have hg := run_guard (P := P) (X := X) (op := op) (xt := xt) (ox := ox) (oy := oy) (p := .int k m) (q := .int k' n) (by simp) (by simp)
  rw [Sem.run_bind, hg, Result.andThen_ok]
  cases op
  case shl | shr =>
    simp only [binA] at h
    split at h
    · cases h
    · rename_i hl
      injection h with h; subst h
      exact ⟨_, by simp [binOp, Op.shift, hl], M_int.2 rfl⟩
  case quo | rem =>
    simp only [binA] at h
    split at h
    · rename_i hk
      subst hk
      split at h
      · cases h
      · rename_i hl
        injection h with h; subst h
        exact ⟨_, by simp [binOp, Op.intDiv, hl], M_int.2 rfl⟩
    · cases h
  all_goals
    simp only [binA] at h
    split at h
    · rename_i hk
      subst hk
      injection h with h; subst h
      first
        | exact ⟨_, by simp [binOp, Op.intArith, Op.intBits, Op.intCmp]; rfl, M_int.2 (by simp [bitsA])⟩
        | exact ⟨_, by simp [binOp, Op.intArith, Op.intBits, Op.intCmp]; rfl, M_bool.2 (by first | rfl | (congr 1; rw [Bool.eq_iff_iff]; simp))⟩
    · cases h
theorem M_ptr {l t i f : Nat} {u : Value} (h : M X (.ptr l t i f) u) : ∃ q, u = .pointer (some q) := by unfold M at h; exact h.1.2
section
variable {n : Nat} {t : TypeId} (w : World)
theorem eq_bool {a b : Bool} (hd : P.underlying t = some .bool) : (Op.equalIn (n + 1) t (.bool a) (.bool b)).run P w = .ok (a == b) w := by
  rw [Op.equalIn]; simp [run_underlying hd]
theorem eq_int {k : IntKind} {a b : Int} {k0 : IntKind} (hd : P.underlying t = some (.int k0)) : (Op.equalIn (n + 1) t (.int k a) (.int k b)).run P w = .ok (a == b) w := by
  rw [Op.equalIn]; simp [run_underlying hd]
theorem eq_ptr0 {e : TypeId} {b : Option Addr} (hd : P.underlying t = some (.pointer e)) : (Op.equalIn (n + 1) t (.pointer none) (.pointer b)).run P w = .ok b.isNone w := by
  rw [Op.equalIn]; simp [run_underlying hd]
theorem eq_ptr1 {e : TypeId} {a : Addr} (hd : P.underlying t = some (.pointer e)) : (Op.equalIn (n + 1) t (.pointer (some a)) (.pointer none)).run P w = .ok false w := by
  rw [Op.equalIn]; simp [run_underlying hd]
theorem eq_sl0 {e : TypeId} {i j k l : Nat} {b : Option Addr} (hd : P.underlying t = some (.slice e)) : (Op.equalIn (n + 1) t (.slice none i j) (.slice b k l)).run P w = .ok b.isNone w := by
  rw [Op.equalIn]; simp [run_underlying hd]
theorem eq_sl1 {e : TypeId} {i j k l : Nat} {a : Addr} (hd : P.underlying t = some (.slice e)) : (Op.equalIn (n + 1) t (.slice (some a) i j) (.slice none k l)).run P w = .ok false w := by
  rw [Op.equalIn]; simp [run_underlying hd]
theorem eq_if0 {m} (hd : P.underlying t = some (.interface m)) : (Op.equalIn (n + 1) t .nilIface .nilIface).run P w = .ok true w := by
  rw [Op.equalIn]; simp [run_underlying hd]
theorem eq_if1 {m} {u : TypeId} {v : Value} (hd : P.underlying t = some (.interface m)) : (Op.equalIn (n + 1) t .nilIface (.iface u v)).run P w = .ok false w := by
  rw [Op.equalIn]; simp [run_underlying hd]
theorem eq_if2 {m} {u : TypeId} {v : Value} (hd : P.underlying t = some (.interface m)) : (Op.equalIn (n + 1) t (.iface u v) .nilIface).run P w = .ok false w := by
  rw [Op.equalIn]; simp [run_underlying hd]
theorem eq_if3 {m} {u u' : TypeId} {v v' : Value} (hd : P.underlying t = some (.interface m)) (hne : u ≠ u') : (Op.equalIn (n + 1) t (.iface u v) (.iface u' v')).run P w = .ok false w := by
  rw [Op.equalIn]; simp [run_underlying hd, hne]
theorem eq_if4 {m} {u : TypeId} {i : TypeInfo} {v v' : Value} (hd : P.underlying t = some (.interface m)) (hi : P.info? u = some i) (hc : i.comparable = true) :
    (Op.equalIn (n + 1) t (.iface u v) (.iface u v')).run P w = (Op.equalIn n u v v').run P w := by
  rw [Op.equalIn]; simp [run_underlying hd, run_typeInfo _ hi, hc]
end
theorem eq_ok {xt : TypeId} {d : TypeDesc} {x y : AV} {p q : Value} {r : Bool} {c : Bool} (hd : P.underlying xt = some d) (hx : M X x p) (hy : M X y q)
    (h : eqA d (cmpT P) c x y = some r) : (Op.equal xt p q).run P X.w = .ok r X.w ∧ (p = .nilIface → q = .nilIface → c = true) ∧ (∀ e, p ≠ .agg e) ∧
      (∀ k n, p ≠ .int k n) ∧ (∀ s, p ≠ .string s) ∧ (∀ k n, p ≠ .float k n) ∧ (∀ k m n, p ≠ .complex k m n) := by
  have he : Op.equal xt p q = Op.equalIn (9999 + 1) xt p q := rfl
  rw [he]
  unfold eqA at h
  split at h
  · rw [M_bool] at hx hy; subst hx; subst hy
    injection h with h
    refine ⟨by rw [eq_bool _ hd, ← h]; congr 1, ?_⟩
    simp
  · rw [M_nilp] at hx hy; subst hx; subst hy
    injection h with h; subst h
    exact ⟨by rw [eq_ptr0 _ hd]; rfl, by simp⟩
  · obtain ⟨b, o, rfl, _⟩ := M_ip hy
    rw [M_nilp] at hx; subst hx
    injection h with h; subst h
    exact ⟨by rw [eq_ptr0 _ hd]; rfl, by simp⟩
  · obtain ⟨b, o, rfl, _⟩ := M_ip hx
    rw [M_nilp] at hy; subst hy
    injection h with h; subst h
    exact ⟨by rw [eq_ptr1 _ hd], by simp⟩
  · obtain ⟨q, rfl⟩ := M_ptr hx
    rw [M_nilp] at hy; subst hy
    injection h with h; subst h
    exact ⟨by rw [eq_ptr1 _ hd], by simp⟩
  · rw [M_nils] at hx hy; subst hx; subst hy
    injection h with h; subst h
    exact ⟨by rw [eq_sl0 _ hd]; rfl, by simp⟩
  · injection h with h; subst h
    rw [M_nils] at hy; subst hy
    unfold M at hx
    obtain ⟨A, c, rfl, hb⟩ := hx
    cases A with
    | none => subst hb; exact ⟨by rw [eq_sl0 _ hd], by simp⟩
    | some a => subst hb; exact ⟨by rw [eq_sl1 _ hd]; rfl, by simp⟩
  · rename_i es
    split at h
    · cases h
    · rename_i hne
      injection h with h; subst h
      rw [M_nils] at hy; subst hy
      obtain ⟨A, c, rfl, _, _, hb⟩ := M_lst hx
      obtain ⟨b, o, z, rfl, _⟩ := hb (by simpa using hne)
      exact ⟨by rw [eq_sl1 _ hd], by simp⟩
  · rw [M_nili] at hx hy; subst hx; subst hy
    split at h
    · rename_i hc
      injection h with h; subst h
      exact ⟨by rw [eq_if0 _ hd], by simp [hc]⟩
    · cases h
  · obtain ⟨u, rfl, _⟩ := M_ifc hy
    rw [M_nili] at hx; subst hx
    injection h with h; subst h
    exact ⟨by rw [eq_if1 _ hd], by simp⟩
  · obtain ⟨u, rfl, _⟩ := M_ifc hx
    rw [M_nili] at hy; subst hy
    injection h with h; subst h
    exact ⟨by rw [eq_if2 _ hd], by simp⟩
  · obtain ⟨u, rfl, hu⟩ := M_ifc hx
    obtain ⟨u', rfl, hu'⟩ := M_ifc hy
    rw [M_int] at hu hu'; subst hu; subst hu'
    split at h
    · rename_i hs
      subst hs
      split at h
      · rename_i hc
        obtain ⟨hc, rfl⟩ := hc
        injection h with h; subst h
        unfold cmpT at hc
        rw [Bool.and_eq_true] at hc
        obtain ⟨k0, hk0⟩ := isInt_some hc.1
        have hc2 := hc.2
        cases hi : P.info? _ with
        | none => rw [hi] at hc2; simp at hc2
        | some i =>
          rw [hi] at hc2
          refine ⟨by rw [eq_if4 _ hd hi (by simpa using hc2), show (9999 : Nat) = 9998 + 1 from rfl, eq_int _ hk0]; congr 1, ?_⟩
          simp
      · cases h
    · rename_i hs
      injection h with h; subst h
      exact ⟨by rw [eq_if3 _ hd hs], by simp⟩
  · cases h
theorem bin_ok {op : BinOp} {xt : TypeId} {d : TypeDesc} {x y v : AV} {p q : Value} {ox oy : Operand} (hd : P.underlying xt = some d) (hx : M X x p) (hy : M X y q)
    (h : binA op d (cmpT P) (isCst ox || isCst oy) x y = some v) : ∃ u, ((do eqGuard op xt ox oy p q; binOp op xt p q : Sem Value)).run P X.w = .ok u X.w ∧ M X v u := by
  have h0 := h
  unfold binA at h
  split at h
  case h_1 => rw [M_int] at hx hy; subst hx; subst hy; exact int_ok h0
  case h_2 => rw [M_int] at hx hy; subst hx; subst hy; exact int_ok h0
  case h_3 => rw [M_int] at hx hy; subst hx; subst hy; exact int_ok h0
  case h_11 =>
    simp only [Option.map_eq_some_iff] at h
    obtain ⟨r, hr, rfl⟩ := h
    obtain ⟨e1, e2, e3, e4, e5, e6, e7⟩ := eq_ok hd hx hy hr
    refine ⟨.bool r, ?_, M_bool.2 rfl⟩
    have hg : (eqGuard .eql xt ox oy p q).run P X.w = .ok () X.w := by
      by_cases hp : p = .nilIface
      · subst hp; exact run_guard_nil fun hq => e2 rfl hq
      · exact run_guard hp e3
    rw [Sem.run_bind, hg, Result.andThen_ok]
    have hb : binOp .eql xt p q = (do pure (.bool (← Op.equal xt p q))) := by
      cases p <;> simp_all [binOp]
    rw [hb]
    simp [e1]
  case h_12 =>
    simp only [Option.map_eq_some_iff] at h
    obtain ⟨r, hr, rfl⟩ := h
    obtain ⟨e1, e2, e3, e4, e5, e6, e7⟩ := eq_ok hd hx hy hr
    refine ⟨.bool (!r), ?_, M_bool.2 rfl⟩
    have hg : (eqGuard .neq xt ox oy p q).run P X.w = .ok () X.w := by
      by_cases hp : p = .nilIface
      · subst hp; exact run_guard_nil fun hq => e2 rfl hq
      · exact run_guard hp e3
    rw [Sem.run_bind, hg, Result.andThen_ok]
    have hb : binOp .neq xt p q = (do pure (.bool (!(← Op.equal xt p q)))) := by
      cases p <;> simp_all [binOp]
    rw [hb]
    simp [e1]
  case h_13 => cases h
  all_goals (rw [M_str] at hx hy; subst hx; subst hy; exact str_ok h0)
end
end Go.Pm
