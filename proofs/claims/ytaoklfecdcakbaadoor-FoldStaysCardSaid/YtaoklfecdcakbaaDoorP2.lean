/- A part of the proof: what the functions of the program answer, as plain lists and numbers. -/
import Derived.Laws.Entries
import Derived.ChangeKeysEq
import Derived.Test.YtaoklfecdcakbaaDoorP1
namespace Go.Pm
set_option linter.unusedVariables false
set_option linter.unusedSimpArgs false
def OpOk (P : Program) (G : Nat → Option (List AV)) (X : Cx) (o : Oper) (a : Act) (r : R3) : Prop :=
  ∀ (K : Act → World → Prop) (Q : Exit → Act → World → Prop),
    (∀ u X', X'.H = r.2.1 → Rel G X' → Ext X X' → EscI X.H X'.H r.2.2 → M X' r.1 u → K (a.put o.dst u) X'.w) → o.wp P a X.w K Q

def SpecR (P : Program) (G : Nat → Option (List AV)) (f : FuncId) (args : List AV) (H : List AObj) (r : R3) : Prop :=
  ∀ (X : Cx) (cargs : Array Value), X.H = H → Rel G X → Ms X args cargs.toList →
    Calls P (base f) cargs X.w fun e w' => ∃ u X', X'.w = w' ∧ e = .returned u ∧ X'.H = r.2.1 ∧ Rel G X' ∧ Ext X X' ∧ EscI X.H X'.H r.2.2 ∧ M X' r.1 u
def EnvOk (P : Program) (G : Nat → Option (List AV)) (env : Env) : Prop := ∀ f args H r, env f args H = some r → SpecR P G f args H r

section
variable {P : Program} {G : Nat → Option (List AV)} {X : Cx} {o : Oper} {a : Act}
theorem ok_same {v : AV} {u : Value} (hR : Rel G X) (hrun : (execOp a.eval o).run P X.w = .ok (.value u) X.w) (hm : M X v u) : OpOk P G X o a (v, X.H, []) := fun K Q h => by
  unfold Oper.wp
  rw [hrun]
  exact h u X rfl hR (Ext.refl X) (EscI.refl _) hm
theorem ok_to {v : AV} {u : Value} {X' : Cx} {H' : List AObj} {E : List Nat} (hrun : (execOp a.eval o).run P X.w = .ok (.value u) X'.w) (hH : X'.H = H') (hR : Rel G X') (hE : Ext X X') (hesc : EscI X.H H' E) (hm : M X' v u) :
    OpOk P G X o a (v, H', E) := fun K Q h => by
  unfold Oper.wp
  rw [hrun]
  exact h u X' hH hR hE (by rw [hH]; exact hesc) hm
theorem ok_skip {X' : Cx} {H' : List AObj} {E : List Nat} (hrun : (execOp a.eval o).run P X.w = .ok .skip X'.w) (hH : X'.H = H') (hR : Rel G X') (hE : Ext X X') (hesc : EscI X.H H' E) :
    OpOk P G X o a (.tup [], H', E) := fun K Q h => by
  unfold Oper.wp
  rw [hrun]
  exact h undef X' hH hR hE (by rw [hH]; exact hesc) (by unfold M; exact ⟨#[], rfl, by simp [Ms]⟩)

theorem tk_some {t : TypeId} {ag : Bool} {s : Nat} (h : tk P t = some (ag, s)) : ∃ d i, P.underlying t = some d ∧ P.info? t = some i ∧ i.size = s ∧ (match d with | .struct _ | .array _ _ => true | _ => false) = ag ∧
    (∀ w, (isAgg t).run P w = .ok ag w) ∧ (∀ w, (sizeOf t).run P w = .ok s w) := by
  unfold tk at h
  split at h
  · rename_i d i hd hi
    injection h with h
    injection h with h1 h2
    refine ⟨d, i, hd, hi, h2, h1, fun w => ?_, fun w => ?_⟩
    · cases d <;> simp_all [isAgg, run_underlying hd]
    · simp [sizeOf, run_typeInfo _ hi, h2]
  · cases h
theorem elemT_some {t e : TypeId} (h : elemT P t = some e) : P.underlying t = some (.slice e) := by
  unfold elemT at h
  split at h
  · injection h with h; subst h; assumption
  · cases h
theorem zeroT_some {t : TypeId} {z : AV} (h : zeroT P t = some z) : ∃ i v, P.info? t = some i ∧ i.zero = some v ∧ z = ofVal v ∧ ∀ w, (zeroValue t).run P w = .ok v w := by
  unfold zeroT at h
  simp only [Option.bind_eq_some_iff, Option.map_eq_some_iff] at h
  obtain ⟨i, hi, v, hv, rfl⟩ := h
  exact ⟨i, v, hi, hv, rfl, fun w => by simp [zeroValue, run_typeInfo _ hi, hv]⟩

theorem one_of0 {v : AV} {u : Value} (h1 : v.one = true) (hn : ∀ a, v ≠ .lnt a) (hm : M X v u) : u.oneCell' = true ∧ u.cells = #[u] := by
  cases v with
  | bad | agg _ | tup _ => simp [AV.one] at h1
  | ptr l tot i off => unfold M at hm; obtain ⟨⟨_, q, rfl⟩, _⟩ := hm; exact ⟨rfl, rfl⟩
  | slc l off n tot => unfold M at hm; obtain ⟨⟨_, A, m, c, rfl⟩, _⟩ := hm; exact ⟨rfl, rfl⟩
  | ip cs => unfold M at hm; obtain ⟨b, o, rfl, _⟩ := hm; exact ⟨rfl, rfl⟩
  | lst cs => unfold M at hm; obtain ⟨A, c, rfl, _⟩ := hm; exact ⟨rfl, rfl⟩
  | emp b => unfold M at hm; obtain ⟨A, c, rfl, _⟩ := hm; exact ⟨rfl, rfl⟩
  | clo f a b => unfold M at hm; obtain ⟨fv, cv, rfl, _⟩ := hm; exact ⟨rfl, rfl⟩
  | ifc t v => unfold M at hm; obtain ⟨u', rfl, _⟩ := hm; exact ⟨rfl, rfl⟩
  | lnt a => exact absurd rfl (hn a)
  | mp l => unfold M at hm; obtain ⟨⟨_, b, rfl⟩, _⟩ := hm; exact ⟨rfl, rfl⟩
  | _ => unfold M at hm; subst hm; exact ⟨rfl, rfl⟩
theorem one_lnt : ∀ (v : AV) (X : Cx) (u : Value), v.one = true → M X v u → u.oneCell' = true ∧ u.cells = #[u]
  | .lnt v, X, u, h1, hm => by unfold M at hm; exact one_lnt v X.fr u (by simpa only [AV.one] using h1) hm
  | .bad, X, u, h1, hm | .agg _, X, u, h1, hm | .tup _, X, u, h1, hm => by simp [AV.one] at h1
  | .int _ _, X, u, h1, hm | .bool _, X, u, h1, hm | .str _, X, u, h1, hm | .nilp, X, u, h1, hm | .ptr _ _ _ _, X, u, h1, hm | .ip _, X, u, h1, hm | .lst _, X, u, h1, hm | .nils, X, u, h1, hm | .emp _, X, u, h1, hm
  | .slc _ _ _ _, X, u, h1, hm | .clo _ _ _, X, u, h1, hm | .nilf, X, u, h1, hm | .ifc _ _, X, u, h1, hm | .nili, X, u, h1, hm | .mp _, X, u, h1, hm | .nilm, X, u, h1, hm => one_of0 h1 (by intro a h; cases h) hm
theorem one_of {v : AV} {u : Value} (h1 : v.one = true) (hm : M X v u) : u.oneCell' = true ∧ u.cells = #[u] := one_lnt v X u h1 hm
theorem one_all {vs : List AV} {us : List Value} (h1 : vs.all AV.one = true) (hm : Ms X vs us) : ∀ u ∈ us, u.oneCell' = true := fun u hu => by
  obtain ⟨i, hi, rfl⟩ := List.getElem_of_mem hu
  have hl := Ms_length hm
  obtain ⟨u', h2, h3⟩ := Ms_get hm (List.getElem?_eq_getElem (show i < vs.length by omega))
  rw [List.getElem?_eq_getElem hi] at h2
  injection h2 with h2
  rw [h2]
  exact (one_of (List.all_eq_true.1 h1 _ (List.getElem_mem _)) h3).1
/-- What is stored in cells is stored cell by cell. -/
theorem cells_of {v : AV} {u : Value} (h1 : v.cells.all AV.one = true) (hm : M X v u) : Ms X v.cells u.cells.toList := by
  cases v with
  | agg cs => unfold M at hm; obtain ⟨vs, rfl, hs⟩ := hm; exact hs
  | _ =>
    simp only [AV.cells, List.all_cons, List.all_nil, Bool.and_true] at h1 ⊢
    rw [(one_of h1 hm).2]
    unfold Ms
    exact ⟨u, [], rfl, hm, by simp [Ms]⟩

/-- A new variable. -/
theorem new_ok {v : AV} {u : Value} {t : TypeId} {r : R3} (hR : Rel G X) (hn : newA v X.H = some r) (hm : M X v u) :
    ∃ X', (newVar t u).run P X.w = .ok ⟨X.w.heap.size, 0, none⟩ X'.w ∧ X'.H = r.2.1 ∧ Rel G X' ∧ Ext X X' ∧ EscI X.H r.2.1 r.2.2 ∧ M X' r.1 (.pointer (some ⟨X.w.heap.size, 0, none⟩)) := by
  unfold newA at hn
  split at hn
  · rename_i hc
    obtain ⟨hc0, hc1⟩ := hc
    injection hn with hn
    subst hn
    have hs := cells_of hc1 hm
    have hl : v.cells.length = u.cells.size := by simpa using Ms_length hs
    have hz : 0 < v.cells.length := List.length_pos_iff.2 hc0
    have hesc : EscI X.H (X.H ++ [.row v.cells.length [v]]) [] := fun l z es h => by
      rcases Nat.lt_or_ge l X.H.length with hlt | hge
      · rw [List.getElem?_append_left hlt] at h
        exact .inr fun m hm hp => hp z es h
      · rw [List.getElem?_append_right hge] at h
        have hl0 : l = X.H.length := by
          have := (List.getElem?_eq_some_iff.1 h).1
          simp at this; omega
        subst hl0
        simp at h
        obtain ⟨_, rfl⟩ := h
        exact .inr fun m hm' hp => by
          simp only [belL, Bool.and_true]
          exact bel_mono (Nat.le_of_lt hm') v (M_bel v u hm)
    obtain ⟨h1, h2⟩ := push_ok (c := u.cells) (el := t) (fr := (0, 0)) hR (w' := { X.w with heap := X.w.heap.push (.cells u.cells t) }) rfl rfl rfl rfl (z := v.cells.length) (es := [v]) hz
      (fun i e he => by
        cases i with
        | succ i => simp at he
        | zero =>
          simp at he
          subst he
          exact ⟨rfl, u.cells.toList, hs, fun j v' hj => by simpa using hj⟩)
      (by intro e he; simp at he; subst he; exact hc1) (by simp; omega) (.inl rfl) (H' := X.H ++ [.row v.cells.length [v]]) (l := X.H.length) (by simp) (fun k hk => by
        rcases Nat.lt_or_ge k X.H.length with hlt | hge
        · rw [List.getElem?_append_left hlt]
        · rw [List.getElem?_eq_none (by simp; omega), List.getElem?_eq_none hge]) (by simp) (fun h => absurd h (Nat.lt_irrefl _)) (E := []) hesc
    refine ⟨_, by simp [newVar, newRow], rfl, h1, h2, hesc, ?_⟩
    unfold M
    refine ⟨⟨by simp, _, rfl⟩, fun t ht => ?_, fun _ => ⟨X.w.heap.size, v.cells.length, by simp [isRow], by simp [upd], by simp⟩⟩
    simp [lenOf] at ht; omega
  · cases hn
end
end Go.Pm
namespace Go.Pm
set_option linter.unusedVariables false
set_option linter.unusedSimpArgs false
section
variable {P : Program} {G : Nat → Option (List AV)} {X : Cx} {o : Oper} {a : Act} {T : List AV}
theorem same_some {H : List AObj} {v : Option AV} {r : R3} (h : same H v = some r) : ∃ x, v = some x ∧ r = (x, H, []) := by
  unfold same at h
  simp only [Option.map_eq_some_iff] at h
  obtain ⟨x, hx, rfl⟩ := h
  exact ⟨x, hx, rfl⟩

theorem M_int {k : IntKind} {n : Int} {u : Value} : M X (.int k n) u ↔ u = .int k n := by unfold M; rfl
theorem M_bool {b : Bool} {u : Value} : M X (.bool b) u ↔ u = .bool b := by unfold M; rfl
theorem M_str {b : ByteArray} {u : Value} : M X (.str b) u ↔ u = .string b := by unfold M; rfl
theorem M_nilp {u : Value} : M X .nilp u ↔ u = .pointer none := by unfold M; rfl
theorem M_nils {u : Value} : M X .nils u ↔ u = .slice none 0 0 := by unfold M; rfl
theorem M_nili {u : Value} : M X .nili u ↔ u = .nilIface := by unfold M; rfl
theorem M_ip {cs : List AV} {u : Value} (h : M X (.ip cs) u) : ∃ b o, u = .pointer (some ⟨b, o, none⟩) ∧ X.im b ∧ Mc X cs b o := by unfold M at h; exact h
theorem M_lst {es : List AV} {u : Value} (h : M X (.lst es) u) : ∃ A c, u = .slice A es.length c ∧ es.length ≤ c ∧ oneL es ∧ (es ≠ [] → ∃ b o z, A = some ⟨b, o, none⟩ ∧ 0 < z ∧ X.im b ∧ Me X es b o z) := by unfold M at h; exact h
theorem M_ifc {t : TypeId} {v : AV} {u : Value} (h : M X (.ifc t v) u) : ∃ p, u = .iface t p ∧ M X v p := by unfold M at h; exact h
theorem M_agg {cs : List AV} {u : Value} (h : M X (.agg cs) u) : ∃ vs, u = .agg vs ∧ Ms X cs vs.toList := by unfold M at h; exact h
theorem M_tup {cs : List AV} {u : Value} (h : M X (.tup cs) u) : ∃ vs, u = .tuple vs ∧ Ms X cs vs.toList := by unfold M at h; exact h

theorem isInt_some {t : TypeId} (h : isInt P t = true) : ∃ k, P.underlying t = some (.int k) := by
  unfold isInt at h
  split at h
  · exact ⟨_, ‹_›⟩
  · cases h
theorem run_guard {op : BinOp} {xt : TypeId} {ox oy : Operand} {p q : Value} (h1 : p ≠ .nilIface) (h2 : ∀ c, p ≠ .agg c) :
    (eqGuard op xt ox oy p q).run P X.w = .ok () X.w := by
  unfold eqGuard
  cases op <;> simp <;> (cases p <;> cases q <;> simp_all)
theorem run_guard_nil {op : BinOp} {xt : TypeId} {ox oy : Operand} {q : Value} (h1 : q = .nilIface → (isCst ox || isCst oy) = true) :
    (eqGuard op xt ox oy .nilIface q).run P X.w = .ok () X.w := by
  unfold eqGuard
  by_cases hq : q = .nilIface
  · subst hq
    have h := h1 rfl
    cases op <;> simp <;> cases ox <;> cases oy <;> simp_all [isCst]
  · cases op <;> simp <;> cases q <;> simp_all

theorem str_ok {op : BinOp} {xt : TypeId} {ox oy : Operand} {s t : ByteArray} {v : AV} {d : TypeDesc} {cmp : TypeId → Bool} {c : Bool} (h : binA op d cmp c (.str s) (.str t) = some v) :
    ∃ u, ((do eqGuard op xt ox oy (.string s) (.string t); binOp op xt (.string s) (.string t) : Sem Value)).run P X.w = .ok u X.w ∧ M X v u := by
  have hg := run_guard (P := P) (X := X) (op := op) (xt := xt) (ox := ox) (oy := oy) (p := .string s) (q := .string t) (by simp) (by simp)
  rw [Sem.run_bind, hg, Result.andThen_ok]
  have e1 : (s.toList == t.toList) = decide (bl s = bl t) := by
    unfold bl; rw [ByteArray.toList_eq, ByteArray.toList_eq, Bool.eq_iff_iff]; simp
  have e2 : bl s = s.toList := by rw [ByteArray.toList_eq]; rfl
  have e3 : bl t = t.toList := by rw [ByteArray.toList_eq]; rfl
  cases op <;> simp only [binA] at h <;> try cases h
  case add =>
    split at h
    · rename_i hl
      injection h with h; subst h
      exact ⟨_, by simp [binOp, Op.stringOp, IntKind.max, IntKind.signed, IntKind.bits]; omega, M_str.2 rfl⟩
    · cases h
  case lss => exact ⟨_, by simp only [binOp, Op.stringOp, Sem.run_pure]; rfl, M_bool.2 (by rw [e2, e3])⟩
  case geq => exact ⟨_, by simp only [binOp, Op.stringOp, Sem.run_pure]; rfl, M_bool.2 (by rw [e2, e3])⟩
  all_goals exact ⟨_, by simp only [binOp, Op.stringOp, Sem.run_pure]; rfl, M_bool.2 (by rw [e1, e2, e3])⟩
theorem int_ok {op : BinOp} {xt : TypeId} {ox oy : Operand} {k k' : IntKind} {m n : Int} {v : AV} {d : TypeDesc} {cmp : TypeId → Bool} {c : Bool} (h : binA op d cmp c (.int k m) (.int k' n) = some v) :
    ∃ u, ((do eqGuard op xt ox oy (.int k m) (.int k' n); binOp op xt (.int k m) (.int k' n) : Sem Value)).run P X.w = .ok u X.w ∧ M X v u := by
  have hg := run_guard (P := P) (X := X) (op := op) (xt := xt) (ox := ox) (oy := oy) (p := .int k m) (q := .int k' n) (by simp) (by simp)
  rw [Sem.run_bind, hg, Result.andThen_ok]
  cases op
  case shl | shr =>
    simp only [binA] at h
    split at h
    · cases h
    · rename_i hl
      injection h with h; subst h
      exact ⟨_, by simp [binOp, Op.shift, hl], M_int.2 rfl⟩
  case quo | rem =>
    simp only [binA] at h
    split at h
    · rename_i hk
      subst hk
      split at h
      · cases h
      · rename_i hl
        injection h with h; subst h
        exact ⟨_, by simp [binOp, Op.intDiv, hl], M_int.2 rfl⟩
    · cases h
  all_goals
    simp only [binA] at h
    split at h
    · rename_i hk
      subst hk
      injection h with h; subst h
      first
        | exact ⟨_, by simp [binOp, Op.intArith, Op.intBits, Op.intCmp]; rfl, M_int.2 (by simp [bitsA])⟩
        | exact ⟨_, by simp [binOp, Op.intArith, Op.intBits, Op.intCmp]; rfl, M_bool.2 (by first | rfl | (congr 1; rw [Bool.eq_iff_iff]; simp))⟩
    · cases h
theorem M_ptr {l t i f : Nat} {u : Value} (h : M X (.ptr l t i f) u) : ∃ q, u = .pointer (some q) := by unfold M at h; exact h.1.2
section
variable {n : Nat} {t : TypeId} (w : World)
theorem eq_bool {a b : Bool} (hd : P.underlying t = some .bool) : (Op.equalIn (n + 1) t (.bool a) (.bool b)).run P w = .ok (a == b) w := by
  rw [Op.equalIn]; simp [run_underlying hd]
theorem eq_int {k : IntKind} {a b : Int} {k0 : IntKind} (hd : P.underlying t = some (.int k0)) : (Op.equalIn (n + 1) t (.int k a) (.int k b)).run P w = .ok (a == b) w := by
  rw [Op.equalIn]; simp [run_underlying hd]
theorem eq_ptr0 {e : TypeId} {b : Option Addr} (hd : P.underlying t = some (.pointer e)) : (Op.equalIn (n + 1) t (.pointer none) (.pointer b)).run P w = .ok b.isNone w := by
  rw [Op.equalIn]; simp [run_underlying hd]
theorem eq_ptr1 {e : TypeId} {a : Addr} (hd : P.underlying t = some (.pointer e)) : (Op.equalIn (n + 1) t (.pointer (some a)) (.pointer none)).run P w = .ok false w := by
  rw [Op.equalIn]; simp [run_underlying hd]
theorem eq_sl0 {e : TypeId} {i j k l : Nat} {b : Option Addr} (hd : P.underlying t = some (.slice e)) : (Op.equalIn (n + 1) t (.slice none i j) (.slice b k l)).run P w = .ok b.isNone w := by
  rw [Op.equalIn]; simp [run_underlying hd]
theorem eq_sl1 {e : TypeId} {i j k l : Nat} {a : Addr} (hd : P.underlying t = some (.slice e)) : (Op.equalIn (n + 1) t (.slice (some a) i j) (.slice none k l)).run P w = .ok false w := by
  rw [Op.equalIn]; simp [run_underlying hd]
theorem eq_if0 {m} (hd : P.underlying t = some (.interface m)) : (Op.equalIn (n + 1) t .nilIface .nilIface).run P w = .ok true w := by
  rw [Op.equalIn]; simp [run_underlying hd]
theorem eq_if1 {m} {u : TypeId} {v : Value} (hd : P.underlying t = some (.interface m)) : (Op.equalIn (n + 1) t .nilIface (.iface u v)).run P w = .ok false w := by
  rw [Op.equalIn]; simp [run_underlying hd]
theorem eq_if2 {m} {u : TypeId} {v : Value} (hd : P.underlying t = some (.interface m)) : (Op.equalIn (n + 1) t (.iface u v) .nilIface).run P w = .ok false w := by
  rw [Op.equalIn]; simp [run_underlying hd]
theorem eq_if3 {m} {u u' : TypeId} {v v' : Value} (hd : P.underlying t = some (.interface m)) (hne : u ≠ u') : (Op.equalIn (n + 1) t (.iface u v) (.iface u' v')).run P w = .ok false w := by
  rw [Op.equalIn]; simp [run_underlying hd, hne]
theorem eq_if4 {m} {u : TypeId} {i : TypeInfo} {v v' : Value} (hd : P.underlying t = some (.interface m)) (hi : P.info? u = some i) (hc : i.comparable = true) :
    (Op.equalIn (n + 1) t (.iface u v) (.iface u v')).run P w = (Op.equalIn n u v v').run P w := by
  rw [Op.equalIn]; simp [run_underlying hd, run_typeInfo _ hi, hc]
end
theorem eq_ok {xt : TypeId} {d : TypeDesc} {x y : AV} {p q : Value} {r : Bool} {c : Bool} (hd : P.underlying xt = some d) (hx : M X x p) (hy : M X y q)
    (h : eqA d (cmpT P) c x y = some r) : (Op.equal xt p q).run P X.w = .ok r X.w ∧ (p = .nilIface → q = .nilIface → c = true) ∧ (∀ e, p ≠ .agg e) ∧
      (∀ k n, p ≠ .int k n) ∧ (∀ s, p ≠ .string s) ∧ (∀ k n, p ≠ .float k n) ∧ (∀ k m n, p ≠ .complex k m n) := by
  have he : Op.equal xt p q = Op.equalIn (9999 + 1) xt p q := rfl
  rw [he]
  unfold eqA at h
  split at h
  · rw [M_bool] at hx hy; subst hx; subst hy
    injection h with h
    refine ⟨by rw [eq_bool _ hd, ← h]; congr 1, ?_⟩
    simp
  · rw [M_nilp] at hx hy; subst hx; subst hy
    injection h with h; subst h
    exact ⟨by rw [eq_ptr0 _ hd]; rfl, by simp⟩
  · obtain ⟨b, o, rfl, _⟩ := M_ip hy
    rw [M_nilp] at hx; subst hx
    injection h with h; subst h
    exact ⟨by rw [eq_ptr0 _ hd]; rfl, by simp⟩
  · obtain ⟨b, o, rfl, _⟩ := M_ip hx
    rw [M_nilp] at hy; subst hy
    injection h with h; subst h
    exact ⟨by rw [eq_ptr1 _ hd], by simp⟩
  · obtain ⟨q, rfl⟩ := M_ptr hx
    rw [M_nilp] at hy; subst hy
    injection h with h; subst h
    exact ⟨by rw [eq_ptr1 _ hd], by simp⟩
  · rw [M_nils] at hx hy; subst hx; subst hy
    injection h with h; subst h
    exact ⟨by rw [eq_sl0 _ hd]; rfl, by simp⟩
  · injection h with h; subst h
    rw [M_nils] at hy; subst hy
    unfold M at hx
    obtain ⟨A, c, rfl, hb, _⟩ := hx
    have hb := hb _ rfl
    cases A with
    | none => subst hb; exact ⟨by rw [eq_sl0 _ hd], by simp⟩
    | some a => subst hb; exact ⟨by rw [eq_sl1 _ hd]; rfl, by simp⟩
  · rename_i es
    split at h
    · cases h
    · rename_i hne
      injection h with h; subst h
      rw [M_nils] at hy; subst hy
      obtain ⟨A, c, rfl, _, _, hb⟩ := M_lst hx
      obtain ⟨b, o, z, rfl, _⟩ := hb (by simpa using hne)
      exact ⟨by rw [eq_sl1 _ hd], by simp⟩
  · rename_i es
    split at h
    · cases h
    · rename_i hne
      injection h with h; subst h
      rw [M_nils] at hy; subst hy
      unfold M at hx
      obtain ⟨A, c, rfl, _, _, hb⟩ := M_lst hx
      obtain ⟨b, o, z, rfl, _⟩ := hb (by simpa using hne)
      exact ⟨by rw [eq_sl1 _ hd], by simp⟩
  · rw [M_nili] at hx hy; subst hx; subst hy
    split at h
    · rename_i hc
      injection h with h; subst h
      exact ⟨by rw [eq_if0 _ hd], by simp [hc]⟩
    · cases h
  · obtain ⟨u, rfl, _⟩ := M_ifc hy
    rw [M_nili] at hx; subst hx
    injection h with h; subst h
    exact ⟨by rw [eq_if1 _ hd], by simp⟩
  · obtain ⟨u, rfl, _⟩ := M_ifc hx
    rw [M_nili] at hy; subst hy
    injection h with h; subst h
    exact ⟨by rw [eq_if2 _ hd], by simp⟩
  · obtain ⟨u, rfl, hu⟩ := M_ifc hx
    obtain ⟨u', rfl, hu'⟩ := M_ifc hy
    rw [M_int] at hu hu'; subst hu; subst hu'
    split at h
    · rename_i hs
      subst hs
      split at h
      · rename_i hc
        obtain ⟨hc, rfl⟩ := hc
        injection h with h; subst h
        unfold cmpT at hc
        rw [Bool.and_eq_true] at hc
        obtain ⟨k0, hk0⟩ := isInt_some hc.1
        have hc2 := hc.2
        cases hi : P.info? _ with
        | none => rw [hi] at hc2; simp at hc2
        | some i =>
          rw [hi] at hc2
          replace hc2 : i.comparable = true := by
            simp only [Option.map_some, Option.getD_some, Bool.and_eq_true] at hc2
            exact hc2.1
          refine ⟨by rw [eq_if4 _ hd hi hc2, show (9999 : Nat) = 9998 + 1 from rfl, eq_int _ hk0]; congr 1, ?_⟩
          simp
      · cases h
    · rename_i hs
      injection h with h; subst h
      exact ⟨by rw [eq_if3 _ hd hs], by simp⟩
  · cases h
theorem eqItems_ok {e : TypeId} {i : TypeInfo} {k0 : IntKind} {d : Nat} {vs ws : Array Value} (he : P.underlying e = some (.int k0)) (hi : P.info? e = some i) (hs : i.size = 1) (w : World) : ∀ (xs ys : List AV) (j : Nat) (r : Bool), Ms X xs (vs.toList.drop j) → Ms X ys (ws.toList.drop j) → eqIs xs ys = some r →
    (Op.eqItems (d + 1) e (P.cellsOf e) vs ws (List.range' j xs.length)).run P w = .ok r w
  | [], [], j, r, _, _, h => by
    simp only [eqIs, Option.some.injEq] at h
    subst h; simp [Op.eqItems]
  | x :: xs, y :: ys, j, r, hx, hy, h => by
    unfold Ms at hx hy
    obtain ⟨u, us, hu, mu, hx⟩ := hx
    obtain ⟨v, vs', hv, mv, hy⟩ := hy
    cases x <;> try (simp only [eqIs] at h; cases h; done)
    cases y <;> try (simp only [eqIs] at h; cases h; done)
    rename_i k a k' b
    simp only [eqIs] at h
    rw [M_int] at mu mv
    split at h
    case isFalse => cases h
    rename_i hk
    subst hk
    have hcell : P.cellsOf e = 1 := by simp [Program.cellsOf, hi, hs]
    have g1 : vs[j]? = some (.int k a) := by
      have : (vs.toList.drop j)[0]? = some u := by rw [hu]; rfl
      rw [List.getElem?_drop, Nat.add_zero, Array.getElem?_toList] at this
      rw [this, mu]
    have g2 : ws[j]? = some (.int k b) := by
      have : (ws.toList.drop j)[0]? = some v := by rw [hv]; rfl
      rw [List.getElem?_drop, Nat.add_zero, Array.getElem?_toList] at this
      rw [this, mv]
    have p1 : (part e vs (j * P.cellsOf e)).run P w = .ok (.int k a) w := by
      rw [hcell, Nat.mul_one]
      simp [part, isAgg, run_underlying he, g1]
    have p2 : (part e ws (j * P.cellsOf e)).run P w = .ok (.int k b) w := by
      rw [hcell, Nat.mul_one]
      simp [part, isAgg, run_underlying he, g2]
    have d1 : vs.toList.drop (j + 1) = us := by rw [← List.drop_drop, hu]; rfl
    have d2 : ws.toList.drop (j + 1) = vs' := by rw [← List.drop_drop, hv]; rfl
    simp only [List.length_cons, List.range'_succ, Op.eqItems, Sem.run_bind, p1, p2, Result.andThen_ok, eq_int w he]
    split at h
    · rename_i hab
      subst hab
      simp only [beq_self_eq_true, Bool.not_true, Bool.false_eq_true, if_false]
      exact eqItems_ok he hi hs w xs ys (j + 1) r (by rw [d1]; exact hx) (by rw [d2]; exact hy) h
    · rename_i hab
      injection h with h; subst h
      have : (a == b) = false := by simpa using hab
      simp [this]
  | [], y :: ys, j, r, _, _, h => by simp [eqIs] at h
  | x :: xs, [], j, r, _, _, h => by cases x <;> simp [eqIs] at h
theorem eqI_ok {xt : TypeId} {d : TypeDesc} {xs ys : List AV} {p q : Value} {r : Bool} {op : BinOp} {ox oy : Operand} (hd : P.underlying xt = some d) (hx : M X (.agg xs) p) (hy : M X (.agg ys) q)
    (h : eqI d (cmpT P) xs ys = some r) : ∃ vs ws, p = .agg vs ∧ q = .agg ws ∧ (Op.equalIn 10000 xt (.agg vs) (.agg ws)).run P X.w = .ok r X.w ∧ (eqGuard op xt ox oy (.agg vs) (.agg ws)).run P X.w = .ok () X.w := by
  unfold eqI at h
  split at h
  case h_2 => cases h
  rename_i n e
  split at h
  case isFalse => cases h
  rename_i hc
  obtain ⟨c1, c2, c3⟩ := hc
  obtain ⟨vs, rfl, hvs⟩ := M_agg hx
  obtain ⟨ws, rfl, hws⟩ := M_agg hy
  unfold cmpT at c1
  rw [Bool.and_eq_true] at c1
  obtain ⟨k0, hk0⟩ := isInt_some c1.1
  have c1' := c1.2
  cases hi : P.info? e with
  | none => rw [hi] at c1'; simp at c1'
  | some i =>
    rw [hi] at c1'
    simp only [Option.map_some, Option.getD_some, Bool.and_eq_true, beq_iff_eq] at c1'
    refine ⟨vs, ws, rfl, rfl, ?_, run_eqGuard_agg X.w op xt ox oy vs ws ?_⟩
    · rw [show (10000 : Nat) = 9999 + 1 from rfl, run_equalIn_array X.w 9999 vs ws hd hi, List.range_eq_range', ← c2, show (9999 : Nat) = 9998 + 1 from rfl]
      exact eqItems_ok hk0 hi c1'.2 X.w xs ys 0 r (by simpa using hvs) (by simpa using hws) h
    · show P.eqGuardType (2 * (P.types.size + Made.depth) + 2) xt = false
      simp only [Program.eqGuardType, hd, hk0]
theorem bin_ok {op : BinOp} {xt : TypeId} {d : TypeDesc} {x y v : AV} {p q : Value} {ox oy : Operand} (hd : P.underlying xt = some d) (hx : M X x p) (hy : M X y q)
    (h : binA op d (cmpT P) (isCst ox || isCst oy) x y = some v) : ∃ u, ((do eqGuard op xt ox oy p q; binOp op xt p q : Sem Value)).run P X.w = .ok u X.w ∧ M X v u := by
  have h0 := h
  unfold binA at h
  split at h
  case h_1 => rw [M_int] at hx hy; subst hx; subst hy; exact int_ok h0
  case h_2 => rw [M_int] at hx hy; subst hx; subst hy; exact int_ok h0
  case h_3 => rw [M_int] at hx hy; subst hx; subst hy; exact int_ok h0
  case h_11 xs ys =>
    simp only [Option.map_eq_some_iff] at h
    obtain ⟨r, hr, rfl⟩ := h
    obtain ⟨vs, ws, rfl, rfl, e1, e2⟩ := eqI_ok (op := .eql) (ox := ox) (oy := oy) hd hx hy hr
    refine ⟨.bool r, ?_, M_bool.2 rfl⟩
    rw [Sem.run_bind, e2, Result.andThen_ok, run_eql_struct, e1, Result.andThen_ok]
  case h_12 xs ys =>
    simp only [Option.map_eq_some_iff] at h
    obtain ⟨r, hr, rfl⟩ := h
    obtain ⟨vs, ws, rfl, rfl, e1, e2⟩ := eqI_ok (op := .neq) (ox := ox) (oy := oy) hd hx hy hr
    refine ⟨.bool (!r), ?_, M_bool.2 rfl⟩
    rw [Sem.run_bind, e2, Result.andThen_ok, run_neq_struct, e1, Result.andThen_ok]
  case h_13 =>
    simp only [Option.map_eq_some_iff] at h
    obtain ⟨r, hr, rfl⟩ := h
    obtain ⟨e1, e2, e3, e4, e5, e6, e7⟩ := eq_ok hd hx hy hr
    refine ⟨.bool r, ?_, M_bool.2 rfl⟩
    have hg : (eqGuard .eql xt ox oy p q).run P X.w = .ok () X.w := by
      by_cases hp : p = .nilIface
      · subst hp; exact run_guard_nil fun hq => e2 rfl hq
      · exact run_guard hp e3
    rw [Sem.run_bind, hg, Result.andThen_ok]
    have hb : binOp .eql xt p q = (do pure (.bool (← Op.equal xt p q))) := by
      cases p <;> simp_all [binOp]
    rw [hb]
    simp [e1]
  case h_14 =>
    simp only [Option.map_eq_some_iff] at h
    obtain ⟨r, hr, rfl⟩ := h
    obtain ⟨e1, e2, e3, e4, e5, e6, e7⟩ := eq_ok hd hx hy hr
    refine ⟨.bool (!r), ?_, M_bool.2 rfl⟩
    have hg : (eqGuard .neq xt ox oy p q).run P X.w = .ok () X.w := by
      by_cases hp : p = .nilIface
      · subst hp; exact run_guard_nil fun hq => e2 rfl hq
      · exact run_guard hp e3
    rw [Sem.run_bind, hg, Result.andThen_ok]
    have hb : binOp .neq xt p q = (do pure (.bool (!(← Op.equal xt p q)))) := by
      cases p <;> simp_all [binOp]
    rw [hb]
    simp [e1]
  case h_15 => cases h
  all_goals (rw [M_str] at hx hy; subst hx; subst hy; exact str_ok h0)
end
end Go.Pm
namespace Go.Pm
set_option linter.unusedVariables false
set_option linter.unusedSimpArgs false
section
variable {P : Program} {G : Nat → Option (List AV)} {X : Cx} {o : Oper} {a : Act} {T : List AV}
theorem un_ok {op : UnOp} {x v : AV} {p : Value} (hx : M X x p) (h : unA op x = some v) : ∃ u, (Op.unary op p).run P X.w = .ok u X.w ∧ M X v u := by
  unfold unA at h
  split at h
  · rw [M_int] at hx; subst hx; injection h with h; subst h
    exact ⟨_, by simp only [Op.unary, Op.intArith, Sem.run_pure], M_int.2 rfl⟩
  · rw [M_int] at hx; subst hx; injection h with h; subst h
    exact ⟨_, by simp [Op.unary, Op.intBits]; rfl, M_int.2 (by simp [bitsA])⟩
  · rw [M_bool] at hx; subst hx; injection h with h; subst h
    exact ⟨_, by simp [Op.unary], M_bool.2 rfl⟩
  · cases h

theorem add_at (b o k : Nat) : (⟨b, o, none⟩ : Addr).add k = ⟨b, o + k, none⟩ := by unfold Addr.add; split <;> simp_all
/-- A variable is loaded, whose cells are known. -/
theorem ldv_ok {t : TypeId} {ag : Bool} {s : Nat} {cs : List AV} {v : AV} {b o : Nat} (ht : tk P t = some (ag, s)) (hc : Mc X cs b o) (h : ldv ag s cs = some v) :
    ∃ u, (loadVar t ⟨b, o, none⟩).run P X.w = .ok u X.w ∧ M X v u := by
  obtain ⟨d, i, _, _, _, _, hag, hsz⟩ := tk_some ht
  unfold ldv at h
  unfold loadVar
  simp only [Sem.run_bind, hag, Result.andThen_ok]
  cases ag with
  | true =>
    simp only [if_true] at h ⊢
    split at h
    · rename_i hs
      injection h with h; subst h
      obtain ⟨vs, hl, hm, hv⟩ := Mc_vals (Mc_take hc s)
      have hll : vs.length = s := by rw [hl]; simp; omega
      refine ⟨.agg vs.toArray, ?_, by unfold M; exact ⟨_, rfl, by simpa using hm⟩⟩
      have := run_loadCells_list (P := P) X.w ⟨b, o, none⟩ vs (fun j v hj => by rw [add_at, cell?_plain]; exact hv j v hj)
      rw [hll] at this
      simp [hsz, this]
    · cases h
  | false =>
    simp only [Bool.false_eq_true, if_false] at h ⊢
    obtain ⟨vs, hl, hm, hv⟩ := Mc_vals hc
    obtain ⟨u, hu, hmu⟩ := Ms_get hm h
    refine ⟨u, ?_, hmu⟩
    have := hv 0 u hu
    rw [run_load, cell?_plain]
    rw [Nat.add_zero] at this
    rw [this]
theorem row_elem (hR : Rel G X) {l tot i off : Nat} {p : Value} (hp : M X (.ptr l tot i off) p) {z : Nat} {es : List AV} (hl : X.H[l]? = some (.row z es)) (ht : es.length = tot) {e : AV} (he : es[i]? = some e) :
    ∃ b, p = .pointer (some ⟨b, i * z + off, none⟩) ∧ X.ι l = some (b, z) ∧ Mc X e.cells b (i * z) ∧ e.cells.length = z := by
  unfold M at hp
  obtain ⟨_, _, h3⟩ := hp
  obtain ⟨b, z', hr, hi, hv⟩ := h3 (by simp [lenOf, hl, ht])
  obtain ⟨rfl, hz, hm, _, s, hs⟩ := hR.rows l z es b z' hl hi
  obtain ⟨q1, q2⟩ := Me_get hm he
  exact ⟨b, hv, hi, by simpa using q2, q1⟩
theorem load_ok (hR : Rel G X) {t : TypeId} {ag : Bool} {s : Nat} {p : AV} {q : Value} {v : AV} (ht : tk P t = some (ag, s)) (hp : M X p q) (h : loadA ag s p X.H = some v) :
    ∃ u, (Instr.loadAt t q).run P X.w = .ok u X.w ∧ M X v u := by
  unfold loadA at h
  split at h
  · obtain ⟨b, o, rfl, hb, hc⟩ := M_ip hp
    obtain ⟨u, h1, h2⟩ := ldv_ok ht hc h
    exact ⟨u, by simp [Instr.loadAt, Instr.sureAddr, h1], h2⟩
  · unfold M at hp
    obtain ⟨b, o, rfl, hb, hc⟩ := M_ip hp
    simp only [Option.map_eq_some_iff] at h
    obtain ⟨v0, h, rfl⟩ := h
    obtain ⟨u, h1, h2⟩ := ldv_ok (X := X.fr) ht hc h
    exact ⟨u, by simpa [Instr.loadAt, Instr.sureAddr, Cx.fr] using h1, lntW_M _ _ h2⟩
  · split at h
    · rename_i z es hl
      split at h
      · rename_i hlen
        simp only [Option.bind_eq_some_iff] at h
        obtain ⟨e, he, h⟩ := h
        obtain ⟨b, rfl, _, hc, hcl⟩ := row_elem hR hp hl hlen he
        rename_i i off _ _
        by_cases hof : off ≤ e.cells.length
        · obtain ⟨u, h1, h2⟩ := ldv_ok ht (Mc_drop hc off hof) h
          exact ⟨u, by simp [Instr.loadAt, Instr.sureAddr, h1], h2⟩
        · rw [List.drop_of_length_le (by omega)] at h
          have : Mc X ([] : List AV) b (i * z + off) := by simp [Mc]
          obtain ⟨u, h1, h2⟩ := ldv_ok ht this h
          exact ⟨u, by simp [Instr.loadAt, Instr.sureAddr, h1], h2⟩
      · cases h
    · cases h
  · cases h

theorem off_ok {p v : AV} {q : Value} {k : Nat} (hp : M X p q) (h : offA p k = some v) : ∃ a : Addr, q = .pointer (some a) ∧ M X v (.pointer (some (a.add k))) := by
  unfold offA at h
  split at h
  · injection h with h; subst h
    rename_i cs
    obtain ⟨b, o, rfl, hb, hc⟩ := M_ip hp
    refine ⟨_, rfl, ?_⟩
    rw [add_at]
    unfold M
    refine ⟨b, o + k, rfl, hb, ?_⟩
    by_cases hk : k ≤ cs.length
    · exact Mc_drop hc k hk
    · rw [List.drop_of_length_le (by omega)]; simp [Mc]
  · injection h with h; subst h
    rename_i cs
    unfold M at hp
    obtain ⟨b, o, rfl, hb, hc⟩ := M_ip hp
    refine ⟨_, rfl, ?_⟩
    rw [add_at]
    unfold M M
    refine ⟨b, o + k, rfl, hb, ?_⟩
    by_cases hk : k ≤ cs.length
    · exact Mc_drop hc k hk
    · rw [List.drop_of_length_le (by omega)]; simp [Mc]
  · injection h with h; subst h
    unfold M at hp ⊢
    obtain ⟨⟨h1, q, rfl⟩, h2, h3⟩ := hp
    refine ⟨q, rfl, ⟨h1, _, rfl⟩, h2, fun ht => ?_⟩
    obtain ⟨b, z, hr, hi, hv⟩ := h3 ht
    injection hv with hv; injection hv with hv
    subst hv
    exact ⟨b, z, hr, hi, by rw [add_at, Nat.add_assoc]⟩
  · cases h
/-- Field's address. -/
theorem fieldAddr_ok {s : TypeId} {fs : Array Field} {f : Nat} {fd : Field} {x v : AV} {q : Value} {z : Bool × Nat} (hs : P.underlying s = some (.struct fs)) (hf : fs[f]? = some fd) (hz : tk P fd.type = some z) (hz0 : 0 < z.2)
    (hx : M X x q) (h : offA x fd.offset = some v) : ∃ u, (Instr.fieldAt s q f).run P X.w = .ok u X.w ∧ M X v u := by
  obtain ⟨a, rfl, hm⟩ := off_ok hx h
  obtain ⟨d, i, _, _, _, _, _, hsz⟩ := tk_some (ag := z.1) (s := z.2) hz
  refine ⟨_, ?_, hm⟩
  simp [Instr.fieldAt, run_underlying hs, hf, Instr.sureAddr, fieldPlace, hsz, Nat.ne_of_gt hz0]
theorem part_ok {t : TypeId} {ag : Bool} {s : Nat} {cs : List AV} {vs : List Value} {off : Nat} {v : AV} (ht : tk P t = some (ag, s)) (hc : Ms X cs vs) (h : ldv ag s (cs.drop off) = some v) :
    ∃ u, (part t vs.toArray off).run P X.w = .ok u X.w ∧ M X v u := by
  obtain ⟨d, i, _, _, _, _, hag, hsz⟩ := tk_some ht
  unfold ldv at h
  unfold part
  simp only [Sem.run_bind, hag, Result.andThen_ok]
  cases ag with
  | true =>
    simp only [if_true] at h ⊢
    split at h
    · rename_i hs
      injection h with h; subst h
      refine ⟨.agg (vs.toArray.extract off (off + s)), by simp [hsz], ?_⟩
      unfold M
      refine ⟨_, rfl, ?_⟩
      have := Ms_take (Ms_drop hc off) s
      simpa [List.extract_eq_take_drop] using this
    · cases h
  | false =>
    simp only [Bool.false_eq_true, if_false] at h ⊢
    obtain ⟨u, hu, hmu⟩ := Ms_get (Ms_drop hc off) h
    refine ⟨u, ?_, hmu⟩
    have : vs[off]? = some u := by simpa [List.getElem?_drop] using hu
    simp [this]
theorem field_ok {s : TypeId} {fs : Array Field} {f : Nat} {fd : Field} {cs : List AV} {v : AV} {q : Value} {z : Bool × Nat} (hs : P.underlying s = some (.struct fs)) (hf : fs[f]? = some fd) (hz : tk P fd.type = some z)
    (hx : M X (.agg cs) q) (h : ldv z.1 z.2 (cs.drop fd.offset) = some v) : ∃ u, (Instr.field s q f).run P X.w = .ok u X.w ∧ M X v u := by
  obtain ⟨vs, rfl, hm⟩ := M_agg hx
  obtain ⟨u, h1, h2⟩ := part_ok (ag := z.1) (s := z.2) hz hm h
  refine ⟨u, ?_, h2⟩
  simpa [Instr.field, run_underlying hs, hf, asAgg] using h1

theorem index_slice_ok0 (hR : Rel G X) {t e : TypeId} {z : Nat} {ag : Bool} {x v : AV} {i : Int} {k : IntKind} {q : Value} (ht : P.underlying t = some (.slice e)) (hz : tk P e = some (ag, z)) (hx : M X x q) (hn : ∀ es, x ≠ .lnt es) (h : indexA z x i X.H = some v) :
    ∃ u, (Instr.indexAt t q (.int k i)).run P X.w = .ok u X.w ∧ M X v u := by
  obtain ⟨d, inf, _, _, _, _, hag, hsz⟩ := tk_some hz
  unfold indexA at h
  split at h
  · rename_i es
    split at h
    · rename_i h0
      simp only [Option.bind_eq_some_iff] at h
      obtain ⟨e', he, h⟩ := h
      split at h
      · rename_i hcl
        injection h with h; subst h
        obtain ⟨A, c, rfl, hc, _, hb⟩ := M_lst hx
        have hne : es ≠ [] := fun hn => by subst hn; simp at he
        obtain ⟨b, o, z', rfl, hz0, him, hme⟩ := hb hne
        obtain ⟨q1, q2⟩ := Me_get hme he
        have hzz : z' = z := q1.symm.trans hcl
        subst hzz
        have hlt : i.toNat < es.length := (List.getElem?_eq_some_iff.1 he).1
        refine ⟨.pointer (some ⟨b, o + i.toNat * z', none⟩), ?_, by unfold M; exact ⟨b, _, rfl, him, q2⟩⟩
        have hi : 0 ≤ i ∧ i < (es.length : Int) := ⟨h0, by omega⟩
        simp [Instr.indexAt, asIntOf, run_underlying ht, hi.1, hi.2, hsz, add_at]
      · cases h
    · cases h
  · exact absurd rfl (hn _)
  · rename_i l off n tot
    split at h
    · rename_i z' es hl
      split at h
      · rename_i hc
        obtain ⟨h0, h1, h2, rfl⟩ := hc
        injection h with h; subst h
        have hx' := hx
        unfold M at hx
        obtain ⟨⟨k1, _⟩, k2, k3⟩ := hx
        rcases k3 (by simp [lenOf, hl, h2]) with ⟨hv, _⟩ | ⟨hr, A, c, b, z1, s, hi, hv, a1, a2, a3, a4⟩
        · rw [hl] at hv; cases hv
        · obtain ⟨rfl, hz0, hm, _⟩ := hR.rows l z' es b z1 hl hi
          obtain ⟨hA, _⟩ := a4.resolve_left (by omega)
          subst hA; subst hv
          refine ⟨.pointer (some ⟨b, off * z1 + i.toNat * z1, none⟩), ?_, ?_⟩
          · simp [Instr.indexAt, asIntOf, run_underlying ht, h0, h1, hsz, add_at]
          · unfold M
            refine ⟨⟨k1, _, rfl⟩, k2, fun _ => ⟨b, z1, hr, hi, by rw [Nat.add_mul, Nat.add_zero]⟩⟩
      · cases h
    · cases h
  · cases h
theorem index_slice_ok (hR : Rel G X) {t e : TypeId} {z : Nat} {ag : Bool} {x v : AV} {i : Int} {k : IntKind} {q : Value} (ht : P.underlying t = some (.slice e)) (hz : tk P e = some (ag, z)) (hx : M X x q) (h : indexA z x i X.H = some v) :
    ∃ u, (Instr.indexAt t q (.int k i)).run P X.w = .ok u X.w ∧ M X v u := by
  cases x with
  | lnt y =>
    cases y with
    | lst es =>
      simp only [indexA] at h
      split at h
      · rename_i h0
        simp only [Option.bind_eq_some_iff] at h
        obtain ⟨e', he, h⟩ := h
        split at h
        · rename_i hcl
          injection h with h; subst h
          unfold M at hx
          obtain ⟨u, k1, k2⟩ := index_slice_ok0 (P := P) (v := .ip e'.cells) (i := i) (k := k) hR.fr ht hz hx (by intro y hy; cases hy) (by simp [indexA, h0, he, hcl])
          exact ⟨u, k1, by unfold M; exact k2⟩
        · cases h
      · cases h
    | _ => simp [indexA] at h
  | _ => exact index_slice_ok0 hR ht hz hx (by intro y hy; cases hy) h
theorem index_array_ok {t e : TypeId} {n z : Nat} {ag : Bool} {x v : AV} {i : Int} {k : IntKind} {q : Value} (ht : P.underlying t = some (.array n e)) (hz : tk P e = some (ag, z)) (hx : M X x q) (h0 : 0 ≤ i) (h1 : i < n)
    (h : offA x (i.toNat * z) = some v) : ∃ u, (Instr.indexAt t q (.int k i)).run P X.w = .ok u X.w ∧ M X v u := by
  obtain ⟨a, rfl, hm⟩ := off_ok hx h
  obtain ⟨d, inf, _, _, _, _, hag, hsz⟩ := tk_some hz
  refine ⟨_, ?_, hm⟩
  simp [Instr.indexAt, asIntOf, run_underlying ht, h0, h1, hsz, Instr.sureAddr]
theorem index_agg_ok {t e : TypeId} {n z : Nat} {ag : Bool} {cs : List AV} {v : AV} {i : Int} {k : IntKind} {q : Value} (ht : P.underlying t = some (.array n e)) (hz : tk P e = some (ag, z)) (hx : M X (.agg cs) q) (h0 : 0 ≤ i) (h1 : i < n)
    (h : ldv ag z (cs.drop (i.toNat * z)) = some v) : ∃ u, (Instr.index t q (.int k i)).run P X.w = .ok u X.w ∧ M X v u := by
  obtain ⟨vs, rfl, hm⟩ := M_agg hx
  obtain ⟨d, inf, _, _, _, _, hag, hsz⟩ := tk_some hz
  obtain ⟨u, k1, k2⟩ := part_ok hz hm h
  refine ⟨u, ?_, k2⟩
  simp only [Instr.index, asIntOf, Sem.run_bind, Sem.run_pure, Result.andThen_ok, run_underlying ht, h0, h1, and_self, if_true, hsz]
  simpa using k1
theorem index_str_ok {t : TypeId} {s : ByteArray} {v : AV} {i : Int} {k : IntKind} {q : Value} (ht : P.underlying t = some .string) (hx : M X (.str s) q) (h0 : 0 ≤ i)
    (h : (bl s)[i.toNat]?.map (fun b => AV.int .u8 b.toNat) = some v) : ∃ u, (Instr.index t q (.int k i)).run P X.w = .ok u X.w ∧ M X v u := by
  rw [M_str] at hx; subst hx
  simp only [Option.map_eq_some_iff] at h
  obtain ⟨b, hb, rfl⟩ := h
  have hs : s[i.toNat]? = some b := by
    unfold bl at hb
    rw [Array.getElem?_toList] at hb
    exact hb
  refine ⟨_, ?_, M_int.2 rfl⟩
  simp [Instr.index, asIntOf, run_underlying ht, h0, hs]
end
end Go.Pm
namespace Go.Pm
set_option linter.unusedVariables false
set_option linter.unusedSimpArgs false
section
variable {P : Program} {G : Nat → Option (List AV)} {X : Cx} {o : Oper} {a : Act} {T : List AV}
/-- A slice's shape. -/
theorem len_shape {x : AV} {q : Value} {n : Nat} (hx : M X x q) (h : lenA x X.H = some n) : ∃ A c, q = .slice A n c ∧ n ≤ c := by
  unfold lenA at h
  split at h
  · injection h with h; subst h
    obtain ⟨A, c, rfl, hc, _⟩ := M_lst hx
    exact ⟨A, c, rfl, hc⟩
  · injection h with h; subst h
    unfold M at hx
    obtain ⟨A, c, rfl, hc, _⟩ := M_lst hx
    exact ⟨A, c, rfl, hc⟩
  · injection h with h; subst h
    rw [M_nils] at hx; subst hx
    exact ⟨none, 0, rfl, Nat.le_refl _⟩
  · injection h with h; subst h
    unfold M at hx
    obtain ⟨A, c, rfl, _⟩ := hx
    exact ⟨A, c, rfl, Nat.zero_le _⟩
  · rename_i l off k tot
    split at h
    · rename_i ht
      injection h with h; subst h
      unfold M at hx
      obtain ⟨_, _, h3⟩ := hx
      rcases h3 ht with ⟨_, _, rfl, rfl⟩ | ⟨_, A, c, b, z, s, _, rfl, _, hc, _⟩
      · exact ⟨none, 0, rfl, Nat.le_refl _⟩
      · exact ⟨A, c, rfl, hc⟩
    · cases h
  · cases h
theorem len_slice_ok {t e : TypeId} {x : AV} {q : Value} {n : Nat} {ts : Array TypeId} {ty : TypeId} (ht : ts[0]? = some t) (hd : P.underlying t = some (.slice e)) (hx : M X x q) (h : lenA x X.H = some n) :
    (Builtin.len_ ts ty #[q]).run P X.w = .ok (.int .i64 n) X.w := by
  obtain ⟨A, c, rfl, _⟩ := len_shape hx h
  simp [Builtin.len_, ht, run_underlying hd, goInt]
theorem len_str_ok {t : TypeId} {s : ByteArray} {q : Value} {ts : Array TypeId} {ty : TypeId} (ht : ts[0]? = some t) (hd : P.underlying t = some .string) (hx : M X (.str s) q) :
    (Builtin.len_ ts ty #[q]).run P X.w = .ok (.int .i64 s.size) X.w := by
  rw [M_str] at hx; subst hx
  simp [Builtin.len_, ht, run_underlying hd, goInt]
theorem len_array_ok {t e : TypeId} {k : Nat} {q : Value} {ts : Array TypeId} {ty : TypeId} (ht : ts[0]? = some t) (hd : P.underlying t = some (.array k e)) :
    (Builtin.len_ ts ty #[q]).run P X.w = .ok (.int .i64 k) X.w := by
  simp [Builtin.len_, ht, run_underlying hd, goInt]

def BoundIs (X : Cx) (x : Option AV) (q : Option Value) (d n : Int) : Prop :=
  (x = none ∧ q = none ∧ n = d) ∨ ∃ k, x = some (.int k n) ∧ q = some (.int k n)
theorem boundA_is {x : Option AV} {q : Option Value} {d n : Int} (hx : (x = none ∧ q = none) ∨ ∃ y p, x = some y ∧ q = some p ∧ M X y p) (h : boundA x d = some n) : BoundIs X x q d n := by
  unfold boundA at h
  rcases hx with ⟨rfl, rfl⟩ | ⟨y, p, rfl, rfl, hm⟩
  · injection h with h; exact .inl ⟨rfl, rfl, h.symm⟩
  · split at h
    · rename_i heq; cases heq
    · rename_i k m heq
      injection heq with heq; subst heq
      injection h with h; subst h
      rw [M_int] at hm; subst hm
      exact .inr ⟨_, rfl, rfl⟩
    · cases h
theorem run_bound {k : IntKind} {n : Int} {y : Nat} {code : BoundsCode} {w : World} (h0 : 0 ≤ n) (h1 : n ≤ y) : (Instr.sliceBound (.int k n) y code).run P w = .ok n.toNat w := by
  simp [Instr.sliceBound, asIntOf, h0, h1]
theorem run_bounds {b : Bool} {len cap : Nat} {lo hi mx : Option AV} {ql qh qm : Option Value} {l h m : Int} (hl : BoundIs X lo ql 0 l) (hh : BoundIs X hi qh len h) (hm : BoundIs X mx qm len m)
    (h1 : 0 ≤ l) (h2 : l ≤ h) (h3 : h ≤ m) (h4 : m ≤ len) (h5 : len ≤ cap) (h6 : mx.isSome = true → hi.isSome = true) (w : World) :
    (Instr.sliceBounds b len cap ql qh qm).run P w = .ok (l.toNat, h.toNat, if mx.isSome then m.toNat else cap) w := by
  unfold Instr.sliceBounds
  rcases hm with ⟨rfl, rfl, rfl⟩ | ⟨km, rfl, rfl⟩ <;> rcases hh with ⟨rfl, rfl, rfl⟩ | ⟨kh, rfl, rfl⟩ <;> rcases hl with ⟨rfl, rfl, rfl⟩ | ⟨kl, rfl, rfl⟩
  all_goals simp only [Option.isSome_some, Option.isSome_none, Bool.false_eq_true, reduceCtorEq, forall_const, if_true, if_false] at h6 ⊢
  all_goals simp only [Sem.run_bind, Sem.run_pure, Result.andThen_ok]
  all_goals try simp only [Sem.run_bind, Sem.run_pure, Result.andThen_ok, Int.toNat_natCast, Int.toNat_zero]
  all_goals repeat (first | rw [run_bound (by omega) (by omega)] | simp only [Sem.run_bind, Sem.run_pure, Result.andThen_ok, Int.toNat_natCast, Int.toNat_zero])

theorem cut_slice_ok0 (hR : Rel G X) {t e : TypeId} {z : Nat} {ag : Bool} {x v : AV} {q : Value} {lo hi mx : Option AV} {ql qh qm : Option Value} (ht : P.underlying t = some (.slice e)) (hz : tk P e = some (ag, z)) (hx : M X x q) (hn : ∀ es, x ≠ .lnt es)
    (hlo : (lo = none ∧ ql = none) ∨ ∃ y p, lo = some y ∧ ql = some p ∧ M X y p) (hhi : (hi = none ∧ qh = none) ∨ ∃ y p, hi = some y ∧ qh = some p ∧ M X y p) (hmx : (mx = none ∧ qm = none) ∨ ∃ y p, mx = some y ∧ qm = some p ∧ M X y p)
    (h : cutA z x lo hi mx X.H = some v) : ∃ u, (Instr.sliceAt t q ql qh qm).run P X.w = .ok u X.w ∧ M X v u := by
  obtain ⟨d, inf, _, _, _, _, hag, hsz⟩ := tk_some hz
  unfold cutA at h
  simp only [Option.bind_eq_some_iff] at h
  obtain ⟨n, hn0, hh, h1, hl, h2, hm, h3, h⟩ := h
  obtain ⟨A, c, rfl, hc⟩ := len_shape hx hn0
  split at h
  · rename_i hcond
    obtain ⟨c1, c2, c3, c4, c5⟩ := hcond
    have hb := run_bounds (P := P) (b := true) (boundA_is hlo h2) (boundA_is hhi h1) (boundA_is hmx h3) c1 c2 c3 c4 hc c5 X.w
    have hrun : (Instr.sliceAt t (.slice A n c) ql qh qm).run P X.w = .ok (.slice (if (if mx.isSome then hm.toNat else c) = hl.toNat then A else A.map (·.add (hl.toNat * z))) (hh.toNat - hl.toNat) ((if mx.isSome then hm.toNat else c) - hl.toNat)) X.w := by
      simp only [Instr.sliceAt, Instr.slice, Sem.run_bind, run_underlying ht, Result.andThen_ok, hb, hsz, Sem.run_pure]
    refine ⟨_, hrun, ?_⟩
    split at h
    · rename_i es
      split at h
      case isFalse => cases h
      rename_i hlz
      injection h with h; subst h
      simp only [lenA, Option.some.injEq] at hn0
      subst hn0
      obtain ⟨A', c', he, hc', hone, hb'⟩ := M_lst hx
      injection he with e1 e2 e3
      subst e1; subst e3
      have hlen : ((es.take hh.toNat).drop hl.toNat).length = hh.toNat - hl.toNat := by simp; omega
      unfold M
      rw [hlen]
      refine ⟨_, _, rfl, ?_, fun e he => hone e (List.mem_of_mem_take (List.mem_of_mem_drop he)), fun hne => ?_⟩
      · split <;> omega
      · have hne' : es ≠ [] := fun hn => by subst hn; simp at hne
        obtain ⟨b, o, z', rfl, hz0, him, hme⟩ := hb' hne'
        have hpos : 0 < hh.toNat - hl.toNat := by rw [← hlen]; exact List.length_pos_iff.2 hne
        have hzz : z' = z := by
          cases es with
          | nil => exact absurd rfl hne'
          | cons e0 es0 =>
            have h1 := (Me_get hme (i := 0) (e := e0) rfl).1
            simp only [lz, beq_iff_eq] at hlz
            omega
        subst hzz
        refine ⟨b, o + hl.toNat * z', z', ?_, hz0, him, Me_of_get fun i e he => ?_⟩
        · rw [if_neg (by split <;> omega)]
          simp [add_at]
        · have hi' : hl.toNat + i < hh.toNat := by
            have := (List.getElem?_eq_some_iff.1 he).1
            rw [hlen] at this; omega
          have he' : es[hl.toNat + i]? = some e := by
            rw [List.getElem?_drop, List.getElem?_take_of_lt hi'] at he
            exact he
          obtain ⟨q1, q2⟩ := Me_get hme he'
          refine ⟨q1, ?_⟩
          rwa [show o + hl.toNat * z' + i * z' = o + (hl.toNat + i) * z' by rw [Nat.add_mul]; omega]
    · exact absurd rfl (hn _)
    · injection h with h; subst h
      rw [M_nils] at hx
      injection hx with e1 e2 e3
      subst e1; subst e2; subst e3
      rw [M_nils]
      congr 1
      · simp
      · omega
      · split <;> omega
    · rename_i l off n' tot
      split at h
      case h_2 => cases h
      rename_i z' es hrow
      split at h
      · cases h
      · rename_i hmn
        have hmn1 : ¬ mx.isSome = true := fun hc => hmn (.inl hc)
        have hzz : z' = z := Decidable.byContradiction fun hc => hmn (.inr hc)
        subst hzz
        injection h with h; subst h
        simp only [hmn1, if_false, Bool.false_eq_true]
        have hn' := hn0
        unfold lenA at hn0
        simp only at hn0
        split at hn0
        case isFalse => cases hn0
        rename_i hto
        injection hn0 with hn0; subst hn0
        rw [show (hh - hl).toNat = hh.toNat - hl.toNat by omega]
        unfold M at hx ⊢
        obtain ⟨⟨k1, _⟩, k2, k3⟩ := hx
        refine ⟨⟨k1, _, _, _, rfl⟩, k2, fun ht => .inr ?_⟩
        rcases k3 ht with ⟨hv, _⟩ | ⟨hr, A', c', b, z1, s, hi, hv, a1, a2, a3, a4⟩
        · rw [hrow] at hv; cases hv
        · injection hv with e1 e2 e3
          subst e1; subst e3
          obtain ⟨rfl, _⟩ := hR.rows l z' es b z1 hrow hi
          refine ⟨hr, _, c - hl.toNat, b, _, s, hi, rfl, by omega, by omega, a3, ?_⟩
          by_cases hcl : c - hl.toNat = 0
          · exact .inl hcl
          · right
            obtain ⟨hA, hcap⟩ := a4.resolve_left (by omega)
            subst hA
            rw [if_neg (by omega)]
            refine ⟨by simp [add_at, Nat.add_mul], ?_⟩
            rw [show off + hl.toNat + (c - hl.toNat) = off + c by omega]
            exact hcap
    · cases h
  · cases h
theorem cut_slice_ok (hR : Rel G X) {t e : TypeId} {z : Nat} {ag : Bool} {x v : AV} {q : Value} {lo hi mx : Option AV} {ql qh qm : Option Value} (ht : P.underlying t = some (.slice e)) (hz : tk P e = some (ag, z)) (hx : M X x q)
    (hlo : (lo = none ∧ ql = none) ∨ ∃ y p, lo = some y ∧ ql = some p ∧ M X y p) (hhi : (hi = none ∧ qh = none) ∨ ∃ y p, hi = some y ∧ qh = some p ∧ M X y p) (hmx : (mx = none ∧ qm = none) ∨ ∃ y p, mx = some y ∧ qm = some p ∧ M X y p)
    (h : cutA z x lo hi mx X.H = some v) : ∃ u, (Instr.sliceAt t q ql qh qm).run P X.w = .ok u X.w ∧ M X v u := by
  cases x with
  | lnt y =>
    cases y with
    | lst es =>
      unfold M at hx
      have h' : ∃ es', v = .lnt (.lst es') ∧ cutA z (.lst es) lo hi mx X.H = some (.lst es') := by
        simp only [cutA, lenA, Option.bind_eq_some_iff, Option.bind_some] at h ⊢
        obtain ⟨hh, h1, hl, h2, hm, h3, h⟩ := h
        split at h
        · rename_i hc
          split at h
          · rename_i hz0
            injection h with h; subst h
            exact ⟨_, rfl, hh, h1, hl, h2, hm, h3, by rw [if_pos hc, if_pos hz0]⟩
          · cases h
        · cases h
      obtain ⟨es', rfl, h'⟩ := h'
      have low : ∀ {y : Option AV} {p : Option Value}, ((y = none ∧ p = none) ∨ ∃ a b, y = some a ∧ p = some b ∧ M X a b) → ((y = none ∧ p = none) ∨ ∃ a b, y = some a ∧ p = some b ∧ M X.fr a b) := fun h => h.imp id fun ⟨a, b, h1, h2, h3⟩ => ⟨a, b, h1, h2, M_fr a b h3⟩
      obtain ⟨u, k1, k2⟩ := cut_slice_ok0 (P := P) (X := X.fr) hR.fr ht hz hx (by intro y hy; cases hy) (low hlo) (low hhi) (low hmx) h'
      exact ⟨u, k1, by unfold M; exact k2⟩
    | _ => simp [cutA, lenA] at h
  | _ => exact cut_slice_ok0 hR ht hz hx (by intro y hy; cases hy) hlo hhi hmx h
theorem cut_str_ok {t : TypeId} {x v : AV} {q : Value} {lo hi : Option AV} {ql qh : Option Value} (ht : P.underlying t = some .string) (hx : M X x q)
    (hlo : (lo = none ∧ ql = none) ∨ ∃ y p, lo = some y ∧ ql = some p ∧ M X y p) (hhi : (hi = none ∧ qh = none) ∨ ∃ y p, hi = some y ∧ qh = some p ∧ M X y p)
    (h : cutS x lo hi = some v) : ∃ u, (Instr.sliceAt t q ql qh none).run P X.w = .ok u X.w ∧ M X v u := by
  unfold cutS at h
  split at h
  · rename_i s
    rw [M_str] at hx; subst hx
    simp only [Option.bind_eq_some_iff] at h
    obtain ⟨hh, h1, hl, h2, h⟩ := h
    split at h
    · rename_i hc
      obtain ⟨c1, c2, c3⟩ := hc
      injection h with h; subst h
      have hb := run_bounds (P := P) (b := false) (len := s.size) (cap := s.size) (mx := none) (qm := none) (m := s.size) (boundA_is hlo h2) (boundA_is hhi h1) (.inl ⟨rfl, rfl, rfl⟩) c1 c2 c3 (Int.le_refl _) (by omega) (by simp) X.w
      refine ⟨_, ?_, M_str.2 rfl⟩
      simp [Instr.sliceAt, Instr.slice, run_underlying ht, hb]
    · cases h
  · cases h

/-- The cells of all elements. -/
theorem Me_vals : ∀ {es : List AV} {b o z : Nat}, Me X es b o z → ∃ cs : List Value, cs.length = es.length * z ∧ (∀ j v, cs[j]? = some v → cellAt X.w b (o + j) = some v) ∧
    ∀ i e, es[i]? = some e → ∃ vs, Ms X e.cells vs ∧ ∀ j v, vs[j]? = some v → cs[i * z + j]? = some v
  | [], b, o, z, h => ⟨[], by simp, by simp, by simp⟩
  | e :: es, b, o, z, h => by
    obtain ⟨⟨h1, h2⟩, h3⟩ := Me_cons h
    obtain ⟨vs, l1, l2, l3⟩ := Mc_vals h2
    obtain ⟨cs, k1, k2, k3⟩ := Me_vals h3
    refine ⟨vs ++ cs, by simp [l1, k1, h1, Nat.succ_mul]; omega, fun j v hj => ?_, fun i e' he => ?_⟩
    · rcases Nat.lt_or_ge j vs.length with hlt | hge
      · rw [List.getElem?_append_left hlt] at hj; exact l3 j v hj
      · rw [List.getElem?_append_right hge] at hj
        have := k2 _ _ hj
        rwa [show o + z + (j - vs.length) = o + j by omega] at this
    · cases i with
      | zero =>
        simp at he; subst he
        refine ⟨vs, l2, fun j v hj => ?_⟩
        have hlt : j < vs.length := (List.getElem?_eq_some_iff.1 hj).1
        rw [List.getElem?_append_left (by omega)]
        simpa using hj
      | succ i =>
        simp at he
        obtain ⟨us, m1, m2⟩ := k3 i e' he
        refine ⟨us, m1, fun j v hj => ?_⟩
        have e1 : (i + 1) * z + j = vs.length + (i * z + j) := by rw [Nat.succ_mul]; omega
        rw [e1, List.getElem?_append_right (by omega), Nat.add_sub_cancel_left]
        exact m2 j v hj
theorem lz_all {es : List AV} {b o z z' : Nat} (h : Me X es b o z') (hz : lz z es = true) (hne : es ≠ []) : z' = z := by
  cases es with
  | nil => exact absurd rfl hne
  | cons e0 es0 =>
    have h1 := (Me_get h (i := 0) (e := e0) rfl).1
    simp only [lz, beq_iff_eq] at hz
    omega
theorem Me_sub {es : List AV} {b z off n : Nat} (h : Me X es b 0 z) : Me X ((es.drop off).take n) b (off * z) z := Me_of_get fun i e he => by
  have hi : i < n := by
    have := (List.getElem?_eq_some_iff.1 he).1
    simp at this; omega
  rw [List.getElem?_take_of_lt hi, List.getElem?_drop] at he
  obtain ⟨q1, q2⟩ := Me_get h he
  refine ⟨q1, ?_⟩
  rwa [show off * z + i * z = 0 + (off + i) * z by rw [Nat.add_mul]; omega]
/-- What the elements are in memory. -/
theorem elems_ok0 (hR : Rel G X) {x : AV} {q : Value} {es : List AV} {z : Nat} (hx : M X x q) (hn : ∀ es, x ≠ .lnt es) (h : elemsA x X.H = some es) (hz : lz z es = true) :
    oneL es ∧ (∀ w, (Builtin.lenOf q).run P w = .ok es.length w) ∧ (∀ e ∈ es, e.cells.length = z) ∧
    ∃ cs : List Value, cs.length = es.length * z ∧ (∀ w, w.heap = X.w.heap → (Builtin.firstCells z es.length q).run P w = .ok cs.toArray w) ∧ ∀ i e, es[i]? = some e → ∃ vs, Ms X e.cells vs ∧ ∀ j v, vs[j]? = some v → cs[i * z + j]? = some v := by
  have key : ∀ (b o z' c : Nat), es ≠ [] → Me X es b o z' → q = .slice (some ⟨b, o, none⟩) es.length c → (∀ w, (Builtin.lenOf q).run P w = .ok es.length w) ∧ (∀ e ∈ es, e.cells.length = z) ∧
      ∃ cs : List Value, cs.length = es.length * z ∧ (∀ w, w.heap = X.w.heap → (Builtin.firstCells z es.length q).run P w = .ok cs.toArray w) ∧ ∀ i e, es[i]? = some e → ∃ vs, Ms X e.cells vs ∧ ∀ j v, vs[j]? = some v → cs[i * z + j]? = some v := fun b o z' c hne hm hq => by
    obtain rfl := lz_all hm hz hne
    obtain ⟨cs, k1, k2, k3⟩ := Me_vals hm
    subst hq
    refine ⟨by simp [Builtin.lenOf], fun e he => ?_, cs, k1, fun w hw => ?_, k3⟩
    · obtain ⟨i, hi, rfl⟩ := List.getElem_of_mem he
      exact (Me_get hm (List.getElem?_eq_getElem hi)).1
    · have := run_loadCells_list (P := P) w ⟨b, o, none⟩ cs (fun j v hj => by rw [add_at, cell?_plain]; unfold cellAt; rw [hw]; exact k2 j v hj)
      rw [k1] at this
      simpa [Builtin.firstCells] using this
  have nil : ∀ A c, q = .slice A 0 c → es = [] → (∀ w, (Builtin.lenOf q).run P w = .ok es.length w) ∧ (∀ e ∈ es, e.cells.length = z) ∧
      ∃ cs : List Value, cs.length = es.length * z ∧ (∀ w, w.heap = X.w.heap → (Builtin.firstCells z es.length q).run P w = .ok cs.toArray w) ∧ ∀ i e, es[i]? = some e → ∃ vs, Ms X e.cells vs ∧ ∀ j v, vs[j]? = some v → cs[i * z + j]? = some v := fun A c hq he => by
    subst hq; subst he
    refine ⟨by simp [Builtin.lenOf], by simp, [], by simp, fun w hw => ?_, by simp⟩
    cases A <;> simp [Builtin.firstCells, loadCells, loadCellsFrom]
  unfold elemsA at h
  split at h
  · injection h with h; subst h
    obtain ⟨A, c, hq, hc, hone, hb⟩ := M_lst hx
    refine ⟨hone, ?_⟩
    rename_i es
    by_cases hne : es = []
    · subst hne; exact nil A c hq rfl
    · obtain ⟨b, o, z', rfl, _, _, hm⟩ := hb hne
      exact key b o z' c hne hm hq
  · exact absurd rfl (hn _)
  · injection h with h; subst h
    rw [M_nils] at hx
    exact ⟨by simp [oneL], nil none 0 hx rfl⟩
  · injection h with h; subst h
    unfold M at hx
    obtain ⟨A, c, hq, _⟩ := hx
    exact ⟨by simp [oneL], nil A c hq rfl⟩
  · rename_i s
    injection h with h; subst h
    rw [M_str] at hx; subst hx
    refine ⟨fun e he => ?_, ?_, fun e he => ?_, ?_⟩
    · simp only [bytesA, List.mem_map] at he
      obtain ⟨b, _, rfl⟩ := he
      rfl
    · intro w; simp [Builtin.lenOf, bytesA, bl]
    · cases hl : bl s with
      | nil => simp [bytesA, hl] at he
      | cons b0 bs =>
        simp only [bytesA, hl, List.map, lz, beq_iff_eq, AV.cells] at hz
        simp only [bytesA, List.mem_map] at he
        obtain ⟨b, _, rfl⟩ := he
        simpa [AV.cells] using hz
    · refine ⟨(bl s).map fun b => .int .u8 b.toNat, ?_, fun w hw => ?_, fun i e he => ?_⟩
      · cases hl : bl s with
        | nil => simp [bytesA, hl]
        | cons b0 bs =>
          simp only [bytesA, hl, List.map, lz, beq_iff_eq, AV.cells] at hz
          simp [bytesA, hl, ← hz]
      · have e1 : (bytesA s).length = s.size := by simp [bytesA, bl]
        rw [e1]
        simp only [Builtin.firstCells, Sem.run_pure]
        have e2 : s.extract 0 s.size = s := by
          apply ByteArray.ext
          simp [ByteArray.data_extract]
        rw [e2]
        simp only [bl]
        congr 1
        apply Array.ext'
        simp
      · simp only [bytesA, List.getElem?_map, Option.map_eq_some_iff] at he
        obtain ⟨b, hb, rfl⟩ := he
        refine ⟨[.int .u8 b.toNat], by simp only [AV.cells]; unfold Ms; exact ⟨_, [], rfl, M_int.2 rfl, by simp [Ms]⟩, fun j v hj => ?_⟩
        cases j with
        | succ j => simp at hj
        | zero =>
          simp at hj; subst hj
          cases hl : bl s with
          | nil => simp [hl] at hb
          | cons b0 bs =>
            simp only [bytesA, hl, List.map, lz, beq_iff_eq, AV.cells, List.length_singleton] at hz
            rw [← hl, ← hz]
            simp [hb]
  · rename_i l off n tot
    unfold M at hx
    obtain ⟨⟨k1, _⟩, k2, k3⟩ := hx
    split at h
    · rename_i z0 es0 hl
      split at h
      · rename_i hlen
        injection h with h
        rcases k3 (by simp [lenOf, hl, hlen]) with ⟨hv, _⟩ | ⟨hr, A, c, b, z1, s, hi, hv, a1, a2, a3, a4⟩
        · rw [hl] at hv; cases hv
        · obtain ⟨rfl, hz0, hm, hone, _⟩ := hR.rows l z0 es0 b z1 hl hi
          have hle : es.length = n := by rw [← h]; simp; omega
          refine ⟨fun e he => hone e (by rw [← h] at he; exact List.mem_of_mem_drop (List.mem_of_mem_take he)), ?_⟩
          by_cases hne : es = []
          · have : n = 0 := by rw [← hle, hne]; rfl
            subst this
            exact nil A c hv hne
          · have hpos : 0 < es.length := List.length_pos_iff.2 hne
            obtain ⟨hA, _⟩ := a4.resolve_left (by omega)
            subst hA
            refine key b (off * z1) z1 c hne ?_ (by rw [hle]; exact hv)
            rw [← h]; exact Me_sub hm
      · cases h
    · rename_i hl
      split at h
      · rename_i ht
        injection h with h; subst h
        rcases k3 (by simp [lenOf, hl, ht]) with ⟨_, _, _, hv⟩ | ⟨hr, _⟩
        · exact ⟨by simp [oneL], nil none 0 hv rfl⟩
        · rw [hl] at hr; simp [isRow] at hr
      · cases h
    · cases h
  · cases h
theorem elems_ok (hR : Rel G X) {x : AV} {q : Value} {es : List AV} {z : Nat} (hx : M X x q) (h : elemsA x X.H = some es) (hz : lz z es = true) :
    oneL es ∧ (∀ w, (Builtin.lenOf q).run P w = .ok es.length w) ∧ (∀ e ∈ es, e.cells.length = z) ∧
    ∃ cs : List Value, cs.length = es.length * z ∧ (∀ w, w.heap = X.w.heap → (Builtin.firstCells z es.length q).run P w = .ok cs.toArray w) ∧ ∀ i e, es[i]? = some e → ∃ vs, Ms X e.cells vs ∧ ∀ j v, vs[j]? = some v → cs[i * z + j]? = some v := by
  cases x with
  | lnt y =>
    cases y with
    | lst es0 =>
      simp only [elemsA, Option.some.injEq] at h
      subst h
      unfold M at hx
      have hone0 : oneL es0 := by
        obtain ⟨_, _, _, _, hone, _⟩ := M_lst hx
        exact hone
      have hcell : ∀ e ∈ es0, (lntW e).cells = lntWL e.cells := fun e he => lntW_cells e (by
        have h3 := hone0 e he
        cases e <;> first | rfl | (simp [AV.cells, AV.one] at h3; done) | (simp [AV.cells, AV.one] at h3; simp [AV.isBad, h3]))
      have hlen : ∀ cs : List AV, (lntWL cs).length = cs.length := fun cs => by rw [lntWL_map, List.length_map]
      have hz0 : lz z es0 = true := by
        cases es0 with
        | nil => rfl
        | cons e es =>
          simp only [lntWL, lz] at hz ⊢
          rw [hcell e (List.mem_cons_self ..), hlen] at hz
          exact hz
      obtain ⟨k1, k2, k3, cs, k4, k5, k6⟩ := elems_ok0 (P := P) (X := X.fr) hR.fr hx (by intro y hy; cases hy) (es := es0) rfl hz0
      rw [lntWL_map]
      refine ⟨fun e he => ?_, fun w => by rw [List.length_map]; exact k2 w, fun e he => ?_, cs, by rw [List.length_map]; exact k4, fun w hw => by rw [List.length_map]; exact k5 w hw, fun i e he => ?_⟩
      · obtain ⟨e0, h0, rfl⟩ := List.mem_map.1 he
        rw [hcell e0 h0, lntWL_map, List.all_map, List.all_eq_true]
        exact fun c hc => (lntW_one c (List.all_eq_true.1 (k1 e0 h0) c hc)).1
      · obtain ⟨e0, h0, rfl⟩ := List.mem_map.1 he
        rw [hcell e0 h0, hlen]; exact k3 e0 h0
      · rw [List.getElem?_map, Option.map_eq_some_iff] at he
        obtain ⟨e0, h0, rfl⟩ := he
        obtain ⟨vs, m1, m2⟩ := k6 i e0 h0
        exact ⟨vs, by rw [hcell e0 (List.mem_of_getElem? h0)]; exact lntWL_Ms _ _ m1, m2⟩
    | _ => simp [elemsA] at h
  | _ => exact elems_ok0 hR hx (by intro y hy; cases hy) h hz
end
end Go.Pm
namespace Go.Pm
set_option linter.unusedVariables false
set_option linter.unusedSimpArgs false
section
variable {P : Program} {G : Nat → Option (List AV)} {X : Cx} {o : Oper} {a : Act} {T : List AV}
theorem belL_append {m : Nat} : ∀ {cs ds : List AV}, belL m (cs ++ ds) = (belL m cs && belL m ds)
  | [], ds => by simp [belL]
  | c :: cs, ds => by simp [belL, belL_append, Bool.and_assoc]
theorem belL_iff {m : Nat} : ∀ {cs : List AV}, belL m cs = true ↔ ∀ c ∈ cs, c.bel m = true
  | [] => by simp [belL]
  | c :: cs => by simp [belL, belL_iff]
theorem bel_cells {m : Nat} (e : AV) : belL m e.cells = e.bel m := by
  cases e <;> simp [AV.cells, belL, AV.bel]
theorem belL_flat {m : Nat} {es : List AV} : belL m es = true ↔ ∀ e ∈ es, belL m e.cells = true := by
  simp only [belL_iff (cs := es), bel_cells]

theorem setC_ok {e e' : AV} {off : Nat} {vs : List AV} (h1 : vs.all AV.one = true) (h : setC e off vs = some e') :
    e'.cells = e.cells.take off ++ vs ++ e.cells.drop (off + vs.length) ∧ off + vs.length ≤ e.cells.length := by
  have key : ∀ (x : AV), set1 off vs = some e' → x.cells = [x] →
      e'.cells = x.cells.take off ++ vs ++ x.cells.drop (off + vs.length) ∧ off + vs.length ≤ x.cells.length := fun x hx hc => by
    unfold set1 at hx
    split at hx
    · rename_i v1
      injection hx with hx
      have h2 : v1.one = true := by simpa using h1
      have hv : v1.cells = [v1] := by cases v1 <;> first | rfl | simp [AV.one] at h2
      rw [← hx]
      simp [hc, hv]
    · cases hx
  cases e with
  | agg cs =>
    simp only [setC] at h
    split at h
    · injection h with h; subst h
      exact ⟨rfl, ‹_›⟩
    · cases h
  | _ => exact key _ h rfl

theorem escI_set {H : List AObj} {l z : Nat} {es es' : List AV} {vs : List AV} (hl : H[l]? = some (.row z es))
    (h : ∀ m, belL m es = true → belL m vs = true → belL m es' = true) : EscI H (H.set l (.row z es')) (escs l vs) := fun k z1 es1 hk => by
  by_cases e : k = l
  · subst e
    unfold escs
    split
    · rename_i hb
      right
      intro m hm hp
      have hll : k < H.length := (List.getElem?_eq_some_iff.1 hl).1
      simp [hll] at hk
      obtain ⟨_, rfl⟩ := hk
      exact h m (hp z es hl) (belL_mono hm _ hb)
    · left; simp
  · rw [List.getElem?_set_ne (Ne.symm e)] at hk
    exact .inr fun m hm hp => hp z1 es1 hk

theorem oneL_set {es : List AV} {i : Nat} {e' : AV} (h : oneL es) (h' : e'.cells.all AV.one = true) : oneL (es.set i e') := fun e he => by
  rcases List.mem_or_eq_of_mem_set he with h1 | h1
  · exact h e h1
  · rw [h1]; exact h'

theorem store_ok (hR : Rel G X) {t : TypeId} {ag : Bool} {s : Nat} {p v : AV} {q u : Value} {r : List AObj × List Nat} (ht : tk P t = some (ag, s)) (hp : M X p q) (hv : M X v u) (h : storeA s p v X.H = some r) :
    ∃ X', (Instr.storeAt t q u).run P X.w = .ok () X'.w ∧ X'.H = r.1 ∧ Rel G X' ∧ Ext X X' ∧ EscI X.H r.1 r.2 := by
  obtain ⟨d, inf, _, _, _, _, _, hsz⟩ := tk_some ht
  unfold storeA at h
  split at h
  · rename_i l tot i off
    split at h
    · rename_i z es hl
      split at h
      · rename_i hc
        obtain ⟨hlen, hs, hone⟩ := hc
        simp only [Option.bind_eq_some_iff, Option.map_eq_some_iff] at h
        obtain ⟨e, he, e', hset, rfl⟩ := h
        obtain ⟨b, rfl, hi, hcells, hcl⟩ := row_elem hR hp hl hlen he
        obtain ⟨g1, g2⟩ := setC_ok hone hset
        obtain ⟨_, hz0, hme, hones, sz, hsz2, hle, hfr⟩ := hR.rows l z es b z hl hi
        have hms := cells_of hone hv
        have hul : u.cells.toList.length = s := by rw [← Ms_length hms, hs]
        have hlt : i < es.length := (List.getElem?_eq_some_iff.1 he).1
        have hin : i * z + z ≤ es.length * z := by
          have := Nat.mul_le_mul_right z (Nat.succ_le_of_lt hlt)
          rw [Nat.succ_mul] at this; exact this
        have hoff : off + s ≤ z := by omega
        have hrun : (Instr.storeAt t (.pointer (some ⟨b, i * z + off, none⟩)) u).run P X.w = .ok () (X.w.setCells b (i * z + off) u.cells.toList) := by
          have h1 := run_storeCells_cells (P := P) b (i * z + off) u.cells.toList 0 X.w
            (fun j hj => by rw [cell?_plain]; exact isSome_cellAt hsz2 (by omega)) (fun j hj => unmark_frozen hfr hsz2 _ (by omega)) (one_all hone hms)
          have h2 : u.cells.size = s := by rw [← Array.length_toList]; exact hul
          simpa [Instr.storeAt, Instr.sureAddr, storeVar, hsz, h2] using h1
        have hesc := escI_set (es' := es.set i e') (vs := v.cells) hl (fun m h1 h2 => by
          rw [belL_flat] at h1 ⊢
          intro x hx
          rcases List.mem_or_eq_of_mem_set hx with h3 | h3
          · exact h1 x h3
          · rw [h3, g1, belL_append, belL_append, Bool.and_eq_true, Bool.and_eq_true]
            have h4 := h1 e (List.mem_of_getElem? he)
            rw [belL_iff] at h4
            exact ⟨⟨belL_iff.2 fun c hc => h4 c (List.mem_of_mem_take hc), h2⟩, belL_iff.2 fun c hc => h4 c (List.mem_of_mem_drop hc)⟩)
        obtain ⟨w1, w2⟩ := write_ok hR hl hi (es' := es.set i e') (by simp) (o := i * z + off) (vs := u.cells.toList) hsz2 (by omega) (oneL_set hones (by
            rw [g1, List.all_append, List.all_append, Bool.and_eq_true, Bool.and_eq_true]
            have h4 := hones e (List.mem_of_getElem? he)
            rw [List.all_eq_true] at h4
            exact ⟨⟨List.all_eq_true.2 fun c hc => h4 c (List.mem_of_mem_take hc), hone⟩, List.all_eq_true.2 fun c hc => h4 c (List.mem_of_mem_drop hc)⟩)) (by simpa using hle) (fun k x hx => by
          by_cases ek : k = i
          · subst ek
            rw [List.getElem?_set_self hlt] at hx
            injection hx with hx; subst hx
            obtain ⟨vs, m1, m2, m3⟩ := Mc_vals hcells
            have hvl : vs.length = z := by rw [m1, hcl]
            refine ⟨by rw [g1]; simp; omega, vs.take off ++ u.cells.toList ++ vs.drop (off + s), ?_, fun j y hj => ?_⟩
            · rw [g1, hs]; exact Ms_append (Ms_append (Ms_take m2 off) hms) (Ms_drop m2 _)
            · have hj' : j < z := by
                have := (List.getElem?_eq_some_iff.1 hj).1
                simp at this; simp at hul; omega
              by_cases c1 : j < off
              · rw [List.append_assoc, List.getElem?_append_left (by simp; omega), List.getElem?_take_of_lt c1] at hj
                rw [cellAt_setCells_out (fun _ => .inl (by omega))]
                exact m3 j y hj
              · by_cases c2 : j < off + s
                · rw [List.append_assoc, List.getElem?_append_right (by simp; omega), List.getElem?_append_left (by simp at hul ⊢; omega)] at hj
                  have e1 : (vs.take off).length = off := by simp; omega
                  rw [e1] at hj
                  rw [show k * z + j = k * z + off + (j - off) by omega, cellAt_setCells_in hsz2 (by omega) (by omega)]
                  exact hj
                · rw [List.getElem?_append_right (by simp at hul ⊢; omega), List.getElem?_drop] at hj
                  rw [cellAt_setCells_out (fun _ => .inr (by omega))]
                  have e1 : (vs.take off ++ u.cells.toList).length = off + s := by simp at hul ⊢; omega
                  rw [e1, show off + s + (j - (off + s)) = j by omega] at hj
                  exact m3 j y hj
          · rw [List.getElem?_set_ne (Ne.symm ek)] at hx
            obtain ⟨q1, q2⟩ := Me_get hme hx
            obtain ⟨vs, m1, m2, m3⟩ := Mc_vals q2
            refine ⟨q1, vs, m2, fun j y hj => ?_⟩
            have hj' : j < z := by
              have := (List.getElem?_eq_some_iff.1 hj).1
              omega
            rw [cellAt_setCells_out (fun _ => ?_)]
            · have := m3 j y hj
              rwa [Nat.zero_add] at this
            · rcases Nat.lt_or_gt_of_ne ek with hlt' | hgt
              · left
                have := Nat.mul_le_mul_right z (Nat.succ_le_of_lt hlt')
                rw [Nat.succ_mul] at this; omega
              · right
                have := Nat.mul_le_mul_right z (Nat.succ_le_of_lt hgt)
                rw [Nat.succ_mul] at this; omega) hesc
        exact ⟨_, hrun, rfl, w1, w2, hesc⟩
      · cases h
    · cases h
  · cases h

def Told (X : Cx) (z : Nat) (es : List AV) (cs : List Value) : Prop := cs.length = es.length * z ∧ ∀ i e, es[i]? = some e → ∃ vs, Ms X e.cells vs ∧ ∀ j v, vs[j]? = some v → cs[i * z + j]? = some v
theorem Told.append {z : Nat} {es ds : List AV} {cs us : List Value} (h : Told X z es cs) (k : Told X z ds us) : Told X z (es ++ ds) (cs ++ us) := by
  refine ⟨by simp [h.1, k.1, Nat.add_mul], fun i e he => ?_⟩
  rcases Nat.lt_or_ge i es.length with hlt | hge
  · rw [List.getElem?_append_left hlt] at he
    obtain ⟨vs, h1, h2⟩ := h.2 i e he
    refine ⟨vs, h1, fun j v hj => ?_⟩
    have := h2 j v hj
    rw [List.getElem?_append_left (List.getElem?_eq_some_iff.1 this).1]
    exact this
  · rw [List.getElem?_append_right hge] at he
    obtain ⟨vs, h1, h2⟩ := k.2 _ e he
    refine ⟨vs, h1, fun j v hj => ?_⟩
    have := h2 j v hj
    have e1 : i * z + j = cs.length + ((i - es.length) * z + j) := by
      rw [h.1]
      have : i * z = es.length * z + (i - es.length) * z := by rw [← Nat.add_mul]; congr 1; omega
      omega
    rw [e1, List.getElem?_append_right (by omega), Nat.add_sub_cancel_left]
    exact this
theorem nextcap_le (need cap : Nat) (h : cap < need) : Builtin.nextslicecap need cap ≤ need + need / 4 + 512 := by
  have hg : ∀ (r c : Nat), c ≤ need → Builtin.growBy need r c ≤ need + need / 4 + 512 := fun r => by
    induction r with
    | zero => intro c hc; simp only [Builtin.growBy]; omega
    | succ r ih =>
      intro c hc
      simp only [Builtin.growBy]
      split
      · omega
      · by_cases hc2 : c + (c + 768) / 4 ≤ need
        · exact ih _ hc2
        · cases r with
          | zero => simp only [Builtin.growBy]; omega
          | succ r => simp only [Builtin.growBy]; split <;> omega
  unfold Builtin.nextslicecap
  split
  · omega
  · split
    · omega
    · exact hg 4 cap (by omega)
def notInt : TypeDesc → Bool
  | .int _ => false
  | _ => true
theorem noInt_some {t : TypeId} (h : noInt P t = true) : ∃ d, P.underlying t = some d ∧ notInt d = true := by
  unfold noInt at h
  split at h
  · cases h
  · cases h
  · rename_i d hd hn
    cases hd' : P.underlying t with
    | none => exact absurd hd' hn
    | some d =>
      refine ⟨d, rfl, ?_⟩
      cases d <;> first | rfl | exact absurd hd' (hd _)
/-- The run of an append that has room. -/
theorem run_append_room {ts : Array TypeId} {t e u ty : TypeId} {du : TypeDesc} {A : Option Addr} {n c m z : Nat} {q : Value} {new : Array Value} {w w' : World} (h0 : ts[0]? = some t) (h1 : ts[1]? = some u) (ht : P.underlying t = some (.slice e)) (hu : P.underlying u = some du)
    (hn : notInt du = true) (hz : ∀ w, (sizeOf e).run P w = .ok z w) (hl : ∀ w, (Builtin.lenOf q).run P w = .ok m w) (hc : n + m ≤ c) (hf : (Builtin.firstCells z m q).run P w = .ok new w)
    (hst : (match A with | some a => storeCells (a.add (n * z)) new.toList | none => pure () : Sem Unit).run P w = .ok () w') :
    (Builtin.append_ ts ty #[.slice A n c, q]).run P w = .ok (.slice A (n + m) c) w' := by
  unfold Builtin.append_
  have e0 : (#[Value.slice A n c, q] : Array Value)[0]? = some (.slice A n c) := rfl
  have e1 : (#[Value.slice A n c, q] : Array Value)[1]? = some q := rfl
  simp only [h0, h1, e0, e1, Sem.run_bind, run_underlying ht, run_underlying hu, Result.andThen_ok, hz, Sem.run_pure]
  cases du <;> simp [notInt] at hn
  all_goals
    simp only [Bool.false_eq_true, if_false, hl, Result.andThen_ok, hc, if_true, Bool.not_false, hf, Sem.run_bind]
    cases A with
    | none => simp at hst; simp [hst]
    | some a => simp at hst; simp [hst]
/-- The run of an append that makes a new row. -/
theorem run_append_new {ts : Array TypeId} {t e u ty : TypeId} {du : TypeDesc} {inf : TypeInfo} {zv : Value} {A : Option Addr} {n c m z : Nat} {q : Value} {old new : Array Value} {w : World} (h0 : ts[0]? = some t) (h1 : ts[1]? = some u) (ht : P.underlying t = some (.slice e)) (hu : P.underlying u = some du)
    (hn : notInt du = true) (hz : ∀ w, (sizeOf e).run P w = .ok z w) (hi : P.info? e = some inf) (hzv : ∀ w, (zeroValue e).run P w = .ok zv w) (hl : ∀ w, (Builtin.lenOf q).run P w = .ok m w) (hc : ¬ n + m ≤ c)
    (hb0 : 0 < inf.bytes) (hb : Builtin.nextslicecap (n + m) c * inf.bytes ≤ 281474976710656)
    (hfo : ∀ w', w'.heap = w.heap → (Builtin.firstCells z n (.slice A n c)).run P w' = .ok old w') (hf : ∀ w', w'.heap = w.heap → (Builtin.firstCells z m q).run P w' = .ok new w') :
    ∃ cap, n + m ≤ cap ∧ (Builtin.append_ ts ty #[.slice A n c, q]).run P w = .ok (.slice (some ⟨w.heap.size, 0, none⟩) (n + m) cap)
      { w with heap := w.heap.push (.cells (old ++ new ++ Builtin.zeroCells zv.cells (cap - (n + m))) e), drawn := w.drawn + 1 } := by
  refine ⟨(n + m) + w.tape w.drawn (.appendCap (n + m) c e) % (2 ^ 63 - (n + m)), by omega, ?_⟩
  unfold Builtin.append_
  have e0 : (#[Value.slice A n c, q] : Array Value)[0]? = some (.slice A n c) := rfl
  have e1 : (#[Value.slice A n c, q] : Array Value)[1]? = some q := rfl
  simp only [h0, h1, e0, e1, Sem.run_bind, run_underlying ht, run_underlying hu, Result.andThen_ok, hz, Sem.run_pure]
  cases du <;> simp [notInt] at hn
  all_goals
    simp only [Bool.false_eq_true, if_false, hl, Result.andThen_ok, hc, Bool.not_false, Sem.run_bind, run_typeInfo _ hi, Sem.run_ite, false_or, Nat.ne_of_gt hb0, and_false, Sem.run_pure]
    rw [if_neg (by omega)]
    simp only [Result.andThen_ok, run_choose, Question.forced, Bool.false_eq_true, if_false, Question.cut, run_askRoom]
    rw [hfo { heap := w.heap, tape := w.tape, drawn := w.drawn + 1, os := w.os, output := w.output } rfl]
    simp only [Result.andThen_ok, if_true]
    rw [hf { heap := w.heap, tape := w.tape, drawn := w.drawn + 1, os := w.os, output := w.output } rfl]
    simp only [Result.andThen_ok, hzv, newRow, Sem.run_bind, run_newObj, Sem.run_pure]
theorem escI_new {H : List AObj} {z : Nat} {es : List AV} (hb : belL H.length es = true) : EscI H (H ++ [.row z es]) [] := fun l z1 es1 h => by
  rcases Nat.lt_or_ge l H.length with hlt | hge
  · rw [List.getElem?_append_left hlt] at h
    exact .inr fun m hm hp => hp z1 es1 h
  · rw [List.getElem?_append_right hge] at h
    have hl0 : l = H.length := by
      have := (List.getElem?_eq_some_iff.1 h).1
      simp at this; omega
    subst hl0
    simp at h
    obtain ⟨_, rfl⟩ := h
    exact .inr fun m hm' hp => belL_mono (Nat.le_of_lt hm') _ hb
theorem first0 (A : Option Addr) (z c : Nat) (w : World) : (Builtin.firstCells z 0 (.slice A 0 c)).run P w = .ok ([] : List Value).toArray w := by
  cases A <;> simp [Builtin.firstCells, loadCells, loadCellsFrom]
theorem append_ok (hR : Rel G X) {ts : Array TypeId} {t e u ty : TypeId} {inf : TypeInfo} {ag : Bool} {z : Nat} {zv : AV} {x y : AV} {p q : Value} {ys : List AV} {r : R3} (h0 : ts[0]? = some t) (h1 : ts[1]? = some u) (ht : P.underlying t = some (.slice e)) (hu : noInt P u = true)
    (hz : tk P e = some (ag, z)) (hi : P.info? e = some inf) (hzv : zeroT P e = some zv) (hzl : zv.cells.length = z) (hzb : zv.isBad = false) (hx : M X x p) (hy : M X y q) (hys : elemsA y X.H = some ys) (h : appendA z inf.bytes x ys X.H = some r) :
    ∃ v X', (Builtin.append_ ts ty #[p, q]).run P X.w = .ok v X'.w ∧ X'.H = r.2.1 ∧ Rel G X' ∧ Ext X X' ∧ EscI X.H r.2.1 r.2.2 ∧ M X' r.1 v := by
  obtain ⟨du, hdu, hnd⟩ := noInt_some hu
  obtain ⟨d, inf', _, hi', _, _, _, hsz⟩ := tk_some hz
  obtain ⟨inf2, zval, hi2, hzz, hzv', hzrun⟩ := zeroT_some hzv
  have hzc : zval.cells.size = z := by
    subst hzv'
    cases zval <;> first
      | (simp [ofVal, AV.cells] at hzl; simp [Value.cells, hzl]; done)
      | (simp only [ofVal, ofVal1] at hzl hzb; (repeat' split at hzl) <;> simp_all [AV.cells, Value.cells, AV.isBad])
  unfold appendA at h
  split at h
  · -- nothing is appended
    rename_i hemp
    have hys0 : ys = [] := by simpa using hemp
    subst hys0
    split at h
    · rename_i hsome
      injection h with h; subst h
      obtain ⟨n, hn⟩ := Option.isSome_iff_exists.1 hsome
      obtain ⟨A, c, rfl, hc⟩ := len_shape hx hn
      obtain ⟨_, k1, _, cs, k2, k3, _⟩ := elems_ok (P := P) (z := z) hR hy hys rfl
      have hcs : cs = [] := List.eq_nil_of_length_eq_zero (by simpa using k2)
      subst hcs
      refine ⟨_, X, run_append_room (m := 0) (new := #[]) h0 h1 ht hdu hnd hsz (fun w => k1 w) hc (k3 _ rfl) (by cases A <;> simp [storeCells]), rfl, hR, Ext.refl X, EscI.refl _, hx⟩
    · cases h
  · rename_i hne
    have hys0 : ys ≠ [] := by simpa using hne
    have hypos : 0 < ys.length := List.length_pos_iff.2 hys0
    split at h
    case isFalse => cases h
    rename_i hc0
    obtain ⟨hlz, hz0, hb0, hb1⟩ := hc0
    obtain ⟨yone, ylen, ycl, ycs, y1, y2, y3⟩ := elems_ok (P := P) hR hy hys hlz
    have ytold : Told X z ys ycs := ⟨y1, y3⟩
    have ybel : belL X.H.length ys = true := by
      rw [belL_flat]
      intro e he
      obtain ⟨i, hi, rfl⟩ := List.getElem_of_mem he
      obtain ⟨vs, m1, _⟩ := y3 i _ (List.getElem?_eq_getElem hi)
      exact Ms_bel _ _ m1
    -- a new row
    have newrow : ∀ (A : Option Addr) (n c l : Nat) (old : List AV) (ocs : List Value) (H' : List AObj) (E : List Nat), p = .slice A n c → old.length = n → ¬ n + ys.length ≤ c → (n + ys.length) * inf.bytes ≤ 140737489400832 →
        Told X z old ocs → oneL old → (∀ w, w.heap = X.w.heap → (Builtin.firstCells z n (.slice A n c)).run P w = .ok ocs.toArray w) → (∀ e ∈ old, e.cells.length = z) →
        H'[l]? = some (.row z (old ++ ys)) → (∀ k, k ≠ l → H'[k]? = X.H[k]?) → X.H.length ≤ H'.length → (l < X.H.length → ∃ t0, lenOf X.H l = some t0 ∧ t0 < (old ++ ys).length) → EscI X.H H' E →
        ∃ v X', (Builtin.append_ ts ty #[p, q]).run P X.w = .ok v X'.w ∧ X'.H = H' ∧ Rel G X' ∧ Ext X X' ∧ EscI X.H H' E ∧ M X' (.slc l 0 (n + ys.length) (old ++ ys).length) v := by
      intro A n c l old ocs H' E hp hol hcap hbig hold hone1 hfirst hocl hl hoth hlen hgrow hesc
      subst hp
      obtain ⟨cap, hcap1, hrun⟩ := run_append_new (ty := ty) (old := ocs.toArray) (new := ycs.toArray) (w := X.w) h0 h1 ht hdu hnd hsz hi hzrun (fun w => ylen w) hcap hb0 (by
          have h3 := nextcap_le (n + ys.length) c (by omega)
          have h4 : Builtin.nextslicecap (n + ys.length) c * inf.bytes ≤ ((n + ys.length) + (n + ys.length) / 4 + 512) * inf.bytes := Nat.mul_le_mul_right _ h3
          have h5 : (n + ys.length) / 4 * inf.bytes ≤ (n + ys.length) * inf.bytes / 4 := by
            have := Nat.mul_div_le ((n + ys.length)) 4
            rw [Nat.le_div_iff_mul_le (by omega)]
            calc (n + ys.length) / 4 * inf.bytes * 4 = (4 * ((n + ys.length) / 4)) * inf.bytes := by rw [Nat.mul_comm 4, Nat.mul_assoc, Nat.mul_assoc, Nat.mul_comm inf.bytes 4]
              _ ≤ (n + ys.length) * inf.bytes := Nat.mul_le_mul_right _ this
          rw [Nat.add_mul, Nat.add_mul] at h4
          omega) hfirst y2
      have hcat := hold.append ytold
      obtain ⟨w1, w2⟩ := push_ok (w' := { X.w with heap := X.w.heap.push (.cells (ocs.toArray ++ ycs.toArray ++ Builtin.zeroCells zval.cells (cap - (n + ys.length))) e), drawn := X.w.drawn + 1 }) (c := ocs.toArray ++ ycs.toArray ++ Builtin.zeroCells zval.cells (cap - (n + ys.length))) (el := e) (fr := (0, 0)) hR rfl rfl rfl rfl (z := z) (es := old ++ ys) hz0
        (fun i e he => by
          obtain ⟨vs, m1, m2⟩ := hcat.2 i e he
          refine ⟨?_, vs, m1, fun j v hj => ?_⟩
          · have := List.mem_of_getElem? he
            rw [List.mem_append] at this
            rcases this with hm | hm
            · exact hocl e hm
            · exact ycl e hm
          · have h4 := m2 j v hj
            have hlt := (List.getElem?_eq_some_iff.1 h4).1
            rw [Array.getElem?_append_left (by simp at hlt ⊢; omega)]
            simpa using h4)
        (fun e he => by
          rw [List.mem_append] at he
          rcases he with hm | hm
          · exact hone1 e hm
          · exact yone e hm) (by simp [hold.1, y1, Nat.add_mul]) (.inl rfl) hl hoth hlen hgrow hesc
      refine ⟨_, _, hrun, rfl, w1, w2, hesc, ?_⟩
      have hll : l < H'.length := (List.getElem?_eq_some_iff.1 hl).1
      unfold M
      refine ⟨⟨hll, _, _, _, rfl⟩, fun t ht => ?_, fun _ => .inr ⟨by simp [hl, isRow], some ⟨X.w.heap.size, 0, none⟩, cap, X.w.heap.size, z, cap * z, by simp [upd], rfl, by simp [hol], hcap1, ?_, .inr ⟨by simp, by simp⟩⟩⟩
      · simp only [lenOf, hl] at ht
        injection ht with ht; omega
      · simp only [sizeAt, Array.getElem?_push_size, Option.some.injEq]
        simp only [Array.size_append, List.size_toArray, hold.1, y1, Builtin.zeroCells, Array.size_map, Array.size_range, hzc, hol]
        rw [← Nat.add_mul, ← Nat.add_mul]
        congr 1
        omega
    split at h
    · -- nil
      split at h
      · rename_i hbig
        injection h with h; subst h
        rw [M_nils] at hx
        obtain ⟨v, X', k1, k2, k3, k4, k5, k6⟩ := newrow none 0 0 X.H.length [] [] (X.H ++ [.row z ys]) [] hx rfl (by omega) (by simpa using hbig) ⟨by simp, by simp⟩ (by simp [oneL]) (by simp [Builtin.firstCells]) (by simp) (by simp) (fun k hk => by
          rcases Nat.lt_or_ge k X.H.length with hlt | hge
          · rw [List.getElem?_append_left hlt]
          · rw [List.getElem?_eq_none (by simp; omega), List.getElem?_eq_none hge]) (by simp) (fun hlt => absurd hlt (Nat.lt_irrefl _)) (escI_new ybel)
        exact ⟨v, X', k1, k2, k3, k4, k5, by simpa using k6⟩
      · cases h
    · -- a fresh empty one
      split at h
      · rename_i hbig
        injection h with h; subst h
        have hx' := hx
        unfold M at hx'
        obtain ⟨A, c, hp, _, hc0⟩ := hx'
        have hc0 := hc0 rfl
        subst hc0
        obtain ⟨v, X', k1, k2, k3, k4, k5, k6⟩ := newrow A 0 0 X.H.length [] [] (X.H ++ [.row z ys]) [] hp rfl (by omega) (by simpa using hbig) ⟨by simp, by simp⟩ (by simp [oneL]) (fun w hw => first0 A z 0 w) (by simp) (by simp) (fun k hk => by
          rcases Nat.lt_or_ge k X.H.length with hlt | hge
          · rw [List.getElem?_append_left hlt]
          · rw [List.getElem?_eq_none (by simp; omega), List.getElem?_eq_none hge]) (by simp) (fun hlt => absurd hlt (Nat.lt_irrefl _)) (escI_new ybel)
        exact ⟨v, X', k1, k2, k3, k4, k5, by simpa using k6⟩
      · cases h
    · rename_i l off n tot
      split at h
      case isFalse => cases h
      rename_i hbig
      have hx0 := hx
      unfold M at hx
      obtain ⟨⟨hll, _⟩, hk2, hk3⟩ := hx
      split at h
      · rename_i z' es hl
        split at h
        case isFalse => cases h
        rename_i hcc
        obtain ⟨e1, e2, e3, e4⟩ := hcc
        subst e2; subst e4; subst e3; subst e1
        injection h with h; subst h
        rcases hk3 (by simp [lenOf, hl]) with ⟨hv, _⟩ | ⟨hr, A, c, b, z1, s, hi1, hv, a1, a2, a3, a4⟩
        · rw [hl] at hv; cases hv
        · obtain ⟨e5, _, hme, hone1, s', hs', hle, hfr⟩ := hR.rows l z' es b z1 hl hi1
          subst e5
          rw [a3] at hs'; injection hs' with hs'; subst hs'
          obtain ⟨ocs, o1, o2, o3⟩ := Me_vals hme
          have hocl : ∀ e ∈ es, e.cells.length = z1 := fun e he => by
            obtain ⟨i, hi, rfl⟩ := List.getElem_of_mem he
            exact (Me_get hme (List.getElem?_eq_getElem hi)).1
          have hset : (X.H.set l (.row z1 (es ++ ys)))[l]? = some (.row z1 (es ++ ys)) := by simp [hll]
          have hesc : EscI X.H (X.H.set l (.row z1 (es ++ ys))) (escs l ys) := escI_set hl fun m q1 q2 => by rw [belL_append, q1, q2]; rfl
          by_cases hcap : es.length + ys.length ≤ c
          · -- there is room
            obtain ⟨hA, hfit⟩ := a4.resolve_left (by omega)
            have hA' : A = some ⟨b, 0, none⟩ := by rw [hA, Nat.zero_mul]
            subst hA'
            subst hv
            have hfit' : (es.length + ys.length) * z1 ≤ s := Nat.le_trans (Nat.mul_le_mul_right z1 (by omega)) hfit
            rw [Nat.add_mul] at hfit'
            have hst : (storeCells ((⟨b, 0, none⟩ : Addr).add (es.length * z1)) ycs).run P X.w = .ok () (X.w.setCells b (es.length * z1) ycs) := by
              have h3 := run_storeCells_cells (P := P) b (es.length * z1) ycs 0 X.w
                (fun j hj => by rw [cell?_plain]; exact isSome_cellAt a3 (by omega)) (fun j hj => unmark_frozen hfr a3 _ (by omega)) (fun v hv => by
                  obtain ⟨i, hi, rfl⟩ := List.getElem_of_mem hv
                  have hz1 : 0 < z1 := hz0
                  have hi2 : i / z1 < ys.length := by rw [y1] at hi; exact Nat.div_lt_of_lt_mul (by rw [Nat.mul_comm]; exact hi)
                  obtain ⟨vs, m1, m2⟩ := y3 (i / z1) _ (List.getElem?_eq_getElem hi2)
                  have hvl : vs.length = z1 := by rw [← Ms_length m1]; exact ycl _ (List.getElem_mem _)
                  have hmod : i % z1 < vs.length := by rw [hvl]; exact Nat.mod_lt _ hz1
                  have h4 := m2 (i % z1) _ (List.getElem?_eq_getElem hmod)
                  rw [show i / z1 * z1 + i % z1 = i by rw [Nat.mul_comm]; exact Nat.div_add_mod i z1, List.getElem?_eq_getElem hi] at h4
                  injection h4 with h4
                  rw [h4]
                  exact one_all (yone _ (List.getElem_mem _)) m1 _ (List.getElem_mem _))
              simpa [add_at] using h3
            obtain ⟨w1, w2⟩ := write_ok hR hl hi1 (es' := es ++ ys) (by simp) (o := es.length * z1) (vs := ycs) a3 (by rw [y1]; exact hfit') (fun e he => by
                rw [List.mem_append] at he
                rcases he with hm | hm
                · exact hone1 e hm
                · exact yone e hm) (by simp [Nat.add_mul]; exact hfit') (fun i e he => by
              rcases Nat.lt_or_ge i es.length with hlt | hge
              · rw [List.getElem?_append_left hlt] at he
                obtain ⟨q1, q2⟩ := Me_get hme he
                obtain ⟨vs, m1, m2, m3⟩ := Mc_vals q2
                refine ⟨q1, vs, m2, fun j v hj => ?_⟩
                have hj' : j < z1 := by
                  have := (List.getElem?_eq_some_iff.1 hj).1
                  omega
                have hlt2 := Nat.mul_le_mul_right z1 (Nat.succ_le_of_lt hlt)
                rw [Nat.succ_mul] at hlt2
                rw [cellAt_setCells_out (fun _ => .inl (by omega))]
                have := m3 j v hj
                rwa [Nat.zero_add] at this
              · rw [List.getElem?_append_right hge] at he
                obtain ⟨vs, m1, m2⟩ := y3 _ e he
                refine ⟨ycl e (List.mem_of_getElem? he), vs, m1, fun j v hj => ?_⟩
                have h4 := m2 j v hj
                have hlt := (List.getElem?_eq_some_iff.1 h4).1
                have e6 : i * z1 + j = es.length * z1 + ((i - es.length) * z1 + j) := by
                  have : i * z1 = es.length * z1 + (i - es.length) * z1 := by rw [← Nat.add_mul]; congr 1; omega
                  omega
                rw [e6, cellAt_setCells_in a3 (by rw [y1]; exact hfit') hlt]
                exact h4) hesc
            refine ⟨_, _, run_append_room (ty := ty) (new := ycs.toArray) h0 h1 ht hdu hnd hsz (fun w => ylen w) hcap (y2 _ rfl) hst, rfl, w1, w2, hesc, ?_⟩
            unfold M
            refine ⟨⟨by simpa using hll, _, _, _, rfl⟩, fun t ht => ?_, fun _ => .inr ⟨by simp [hll, isRow], some ⟨b, 0, none⟩, c, b, z1, s, hi1, rfl, by simp, hcap, ?_, .inr ⟨by simp, by simpa using hfit⟩⟩⟩
            · simp only [lenOf, hset] at ht
              injection ht with ht; simp at ht; omega
            · rw [(setCells_facts b ycs _ X.w).2.1 b]; exact a3
          · obtain ⟨v, X', k1, k2, k3, k4, k5, k6⟩ := newrow A es.length c l es ocs (X.H.set l (.row z1 (es ++ ys))) (escs l ys) hv rfl hcap hbig ⟨o1, o3⟩ hone1 (fun w hw => by
                by_cases h00 : es.length = 0
                · have : ocs = [] := List.eq_nil_of_length_eq_zero (by rw [o1, h00, Nat.zero_mul])
                  subst this
                  rw [h00]
                  cases A <;> simp [Builtin.firstCells, loadCells, loadCellsFrom]
                · obtain ⟨hA, _⟩ := a4.resolve_left (by omega)
                  have hA' : A = some ⟨b, 0, none⟩ := by rw [hA, Nat.zero_mul]
                  subst hA'
                  have := run_loadCells_list (P := P) w ⟨b, 0, none⟩ ocs (fun j v hj => by rw [add_at, cell?_plain]; unfold cellAt; rw [hw]; exact o2 j v hj)
                  rw [o1] at this
                  simpa [Builtin.firstCells] using this) hocl hset (fun k hk => by simp [Ne.symm hk]) (by simp) (fun _ => ⟨es.length, by simp [lenOf, hl], by simp; omega⟩) hesc
            exact ⟨v, X', k1, k2, k3, k4, k5, by simpa using k6⟩
      · rename_i hl
        split at h
        case isFalse => cases h
        rename_i hcc
        obtain ⟨e1, e2, e3⟩ := hcc
        subst e1; subst e2; subst e3
        injection h with h; subst h
        rcases hk3 (by simp [lenOf, hl]) with ⟨_, _, _, hv⟩ | ⟨hr, _⟩
        · have hset : (X.H.set l (.row z ys))[l]? = some (.row z ys) := by simp [hll]
          have hesc : EscI X.H (X.H.set l (.row z ys)) (escs l ys) := fun k z1 es1 hk => by
            by_cases e : k = l
            · subst e
              unfold escs
              split
              · rename_i hb
                right
                intro m hm hp
                simp [hll] at hk
                obtain ⟨_, rfl⟩ := hk
                exact belL_mono hm _ hb
              · left; simp
            · rw [List.getElem?_set_ne (Ne.symm e)] at hk
              exact .inr fun m hm hp => hp z1 es1 hk
          obtain ⟨v, X', k1, k2, k3, k4, k5, k6⟩ := newrow none 0 0 l [] [] (X.H.set l (.row z ys)) (escs l ys) hv rfl (by omega) (by simpa using hbig) ⟨by simp, by simp⟩ (by simp [oneL]) (by simp [Builtin.firstCells]) (by simp) (by simpa using hset) (fun k hk => by simp [Ne.symm hk]) (by simp) (fun _ => ⟨0, by simp [lenOf, hl], by simpa using hypos⟩) hesc
          exact ⟨v, X', k1, k2, k3, k4, k5, by simpa using k6⟩
        · rw [hl] at hr; simp [isRow] at hr
      · cases h
    · cases h
end
end Go.Pm
namespace Go.Pm
set_option linter.unusedVariables false
set_option linter.unusedSimpArgs false
section
variable {P : Program} {G : Nat → Option (List AV)} {X : Cx} {o : Oper} {a : Act} {T : List AV}
theorem put_cells_k : ∀ (vs : List Value) (k off : Nat) (cells : Array Value), off + k + vs.length ≤ cells.size →
    ((vs.zipIdx k).foldl (fun cs (p : Value × Nat) => cs.setIfInBounds (off + p.2) p.1) cells).toList = cells.toList.take (off + k) ++ vs ++ cells.toList.drop (off + k + vs.length)
  | [], k, off, cells, h => by simp
  | v :: vs, k, off, cells, h => by
    simp only [List.length_cons] at h
    simp only [List.zipIdx_cons, List.foldl_cons]
    have hsz : cells.toList.length = cells.size := Array.length_toList
    have hk : off + k < cells.toList.length := by omega
    rw [put_cells_k vs (k + 1) off _ (by simp; omega)]
    rw [Array.toList_setIfInBounds, show off + (k + 1) = off + k + 1 by omega, List.take_succ_eq_append_getElem (by simpa using hk)]
    rw [List.drop_set_of_lt (by omega), show off + k + 1 + vs.length = off + k + (v :: vs).length by simp; omega]
    simp [List.take_set_of_le]
theorem put_cells (vs : Array Value) (off : Nat) (cells : Array Value) (h : off + vs.size ≤ cells.size) :
    (vs.zipIdx.foldl (fun cs (p : Value × Nat) => cs.setIfInBounds (off + p.2) p.1) cells).toList = cells.toList.take off ++ vs.toList ++ cells.toList.drop (off + vs.size) := by
  have := put_cells_k vs.toList 0 off cells (by simpa using h)
  rw [← Array.foldl_toList]
  simpa using this

/-- Parts with their values. -/
def Parts (X : Cx) : List (Nat × AV) → List (Nat × Value) → Prop
  | [], qs => qs = []
  | (i, v) :: ps, qs => ∃ u us, qs = (i, u) :: us ∧ M X v u ∧ Parts X ps us
theorem cells_of' {v : AV} {u : Value} (h1 : v.isBad = false) (hm : M X v u) : Ms X v.cells u.cells.toList := by
  cases v with
  | agg cs => unfold M at hm; obtain ⟨vs, rfl, hs⟩ := hm; exact hs
  | bad => simp [AV.isBad] at h1
  | tup vs => simp [AV.isBad] at h1
  | lnt a =>
    simp only [AV.cells]
    rw [(one_of (show (AV.lnt a).one = true by simpa [AV.isBad, AV.one] using h1) hm).2]
    unfold Ms
    exact ⟨u, [], rfl, hm, by simp [Ms]⟩
  | _ =>
    simp only [AV.cells]
    rw [(one_of rfl hm).2]
    unfold Ms
    exact ⟨u, [], rfl, hm, by simp [Ms]⟩
theorem fill_ok {place : Nat → Option (Nat × Nat)} : ∀ {ps : List (Nat × AV)} {qs : List (Nat × Value)} {cs cs' : List AV} {cells : Array Value}, Parts X ps qs → Ms X cs cells.toList → fillA place cs ps = some cs' →
    ∃ cells', Instr.fill place cells qs = some cells' ∧ Ms X cs' cells'.toList
  | [], qs, cs, cs', cells, hp, hc, h => by
    unfold Parts at hp
    subst hp
    simp only [fillA, Option.some.injEq] at h
    subst h
    exact ⟨cells, rfl, hc⟩
  | (i, v) :: ps, qs, cs, cs', cells, hp, hc, h => by
    unfold Parts at hp
    obtain ⟨u, us, rfl, hm, hp⟩ := hp
    simp only [fillA] at h
    cases hpl : place i with
    | none => rw [hpl] at h; cases h
    | some x =>
      obtain ⟨off, size⟩ := x
      rw [hpl] at h
      simp only at h
      split at h
      · rename_i hcond
        obtain ⟨c1, c2, c3⟩ := hcond
        have hms := cells_of' (X := X) c3 hm
        have hul : u.cells.size = size := by rw [← Array.length_toList, ← Ms_length hms, c1]
        have hcl := Ms_length hc
        have hsz : cells.toList.length = cells.size := Array.length_toList
        have hput := put_cells u.cells off cells (by omega)
        obtain ⟨cells', k1, k2⟩ := fill_ok (cells := u.cells.zipIdx.foldl (fun cs (p : Value × Nat) => cs.setIfInBounds (off + p.2) p.1) cells) hp (by
          rw [hput, hul]
          exact Ms_append (Ms_append (Ms_take hc off) hms) (Ms_drop hc _)) h
        refine ⟨cells', ?_, k2⟩
        simp only [Instr.fill, hpl]
        rw [if_neg (by simp only [Bool.or_eq_true, decide_eq_true_eq, ne_eq]; omega)]
        exact k1
      · cases h

theorem Parts_of {l : List (Nat × Operand)} {f : Operand → AV} {g : Operand → Value} (h : ∀ x, M X (f x) (g x)) : Parts X (l.map fun p => (p.1, f p.2)) (l.map fun p => (p.1, g p.2)) := by
  induction l with
  | nil => simp [Parts]
  | cons p l ih => simp only [List.map]; unfold Parts; exact ⟨_, _, rfl, h _, ih⟩
theorem ofVal_cells {v : Value} (h : (ofVal v).isBad = false) : Ms X (ofVal v).cells v.cells.toList := cells_of' h (M_ofVal X v)

theorem run_mapM {α β : Type} (f : α → Sem β) (g : α → β) (w : World) : ∀ (l : List α), (∀ x ∈ l, (f x).run P w = .ok (g x) w) → (l.mapM f).run P w = .ok (l.map g) w
  | [], _ => by simp
  | x :: l, h => by
    rw [List.mapM_cons]
    simp [h x (by simp), run_mapM f g w l fun y hy => h y (by simp [hy])]
theorem build_struct_ok {t : TypeId} {fs : Array Field} {zv : AV} {parts : Array (Nat × Value)} {ps : List (Nat × AV)} {cs : List AV} (ht : P.underlying t = some (.struct fs)) (hz : zeroT P t = some zv) (hzb : zv.isBad = false) (hp : Parts X ps parts.toList)
    (hall : (fs.toList.all fun f => (tk P f.type).isSome) = true) (h : fillA (fun i => (fs[i]?).bind fun f => (tk P f.type).map fun s => (f.offset, s.2)) zv.cells ps = some cs) : ∃ u, (Instr.build t parts).run P X.w = .ok u X.w ∧ M X (.agg cs) u := by
  obtain ⟨inf, zval, hi, hzz, rfl, hzrun⟩ := zeroT_some hz
  have hsz : ∀ f ∈ fs.toList, (do pure (f.offset, ← sizeOf f.type) : Sem (Nat × Nat)).run P X.w = .ok (f.offset, ((tk P f.type).getD (false, 0)).2) X.w := fun f hf => by
    have h1 := List.all_eq_true.1 hall f hf
    obtain ⟨s, hs⟩ := Option.isSome_iff_exists.1 h1
    obtain ⟨d, i, _, _, _, _, _, hsz⟩ := tk_some (ag := s.1) (s := s.2) hs
    simp [hsz, hs]
  have hm := run_mapM (P := P) _ _ X.w fs.toList hsz
  have hplace : (fun (i : Nat) => (fs[i]?).bind fun (f : Field) => (tk P f.type).map fun s => (f.offset, s.2)) = fun i => ((fs.toList.map fun (f : Field) => (f.offset, ((tk P f.type).getD (false, 0)).2)).toArray)[i]? := by
    funext i
    rw [show ∀ (l : List (Nat × Nat)), l.toArray[i]? = l[i]? from fun l => by simp, List.getElem?_map, Array.getElem?_toList]
    cases hf : fs[i]? with
    | none => rfl
    | some f =>
      have h1 := List.all_eq_true.1 hall f (by
        obtain ⟨hlt, hx⟩ := Array.getElem?_eq_some_iff.1 hf
        rw [← hx]; exact Array.getElem_mem_toList hlt)
      obtain ⟨s, hs⟩ := Option.isSome_iff_exists.1 h1
      simp [hs]
  rw [hplace] at h
  obtain ⟨cells', k1, k2⟩ := fill_ok hp (ofVal_cells (X := X) hzb) h
  refine ⟨.agg cells', ?_, by unfold M; exact ⟨_, rfl, k2⟩⟩
  unfold Instr.build
  simp only [Sem.run_bind, hzrun, Result.andThen_ok, run_underlying ht]
  rw [Array.mapM_eq_mapM_toList]
  simp only [Sem.run_map, hm, Result.andThen_ok]
  rw [k1]
  rfl
theorem build_array_ok {t e : TypeId} {n : Nat} {ag : Bool} {z : Nat} {zv : AV} {parts : Array (Nat × Value)} {ps : List (Nat × AV)} {cs : List AV} (ht : P.underlying t = some (.array n e)) (he : tk P e = some (ag, z)) (hz : zeroT P t = some zv) (hzb : zv.isBad = false) (hp : Parts X ps parts.toList)
    (h : fillA (fun i => some (i * z, z)) zv.cells ps = some cs) : ∃ u, (Instr.build t parts).run P X.w = .ok u X.w ∧ M X (.agg cs) u := by
  obtain ⟨inf, zval, hi, hzz, rfl, hzrun⟩ := zeroT_some hz
  obtain ⟨d, i, _, _, _, _, _, hsz⟩ := tk_some he
  obtain ⟨cells', k1, k2⟩ := fill_ok hp (ofVal_cells (X := X) hzb) h
  refine ⟨.agg cells', ?_, by unfold M; exact ⟨_, rfl, k2⟩⟩
  unfold Instr.build
  simp only [Sem.run_bind, hzrun, Result.andThen_ok, run_underlying ht, hsz]
  rw [k1]
  rfl

theorem mod_cell {z i j : Nat} (hz : 0 < z) (hj : j < z) : (i * z + j) % z = j := by
  rw [Nat.mul_comm, Nat.mul_add_mod, Nat.mod_eq_of_lt hj]
theorem zero_told {zv : AV} {zval : Value} {z : Nat} (n : Nat) (hm : Ms X zv.cells zval.cells.toList) (hl : zv.cells.length = z) (hz : 0 < z) :
    Told X z (List.replicate n zv) ((Array.range (n * z)).map (zval.cells[· % zval.cells.size]!)).toList := by
  have hs : zval.cells.size = z := by rw [← Array.length_toList, ← Ms_length hm, hl]
  refine ⟨by simp, fun i e he => ?_⟩
  have hi : i < n := by have := (List.getElem?_eq_some_iff.1 he).1; simpa using this
  rw [List.getElem?_replicate, if_pos hi] at he
  injection he with he; subst he
  refine ⟨_, hm, fun j v hj => ?_⟩
  have hjz : j < z := by
    have := (List.getElem?_eq_some_iff.1 hj).1
    simp at this; omega
  have hlt : i * z + j < n * z := by
    have := Nat.mul_le_mul_right z (Nat.succ_le_of_lt hi)
    rw [Nat.succ_mul] at this; omega
  rw [Array.getElem?_toList] at hj ⊢
  rw [Array.getElem?_map, Array.getElem?_range]
  simp only [hlt, if_true, Option.map_some, hs, mod_cell hz hjz]
  rw [← hj]
  rw [Array.getElem?_eq_getElem (by omega)]
  simp [getElem!_def, Array.getElem?_eq_getElem (show j < zval.cells.size by omega)]
theorem set_told {z : Nat} {es : List AV} {cs : List Value} {v : AV} {us : List Value} {i : Nat} (h : Told X z es cs) (hi : i < es.length) (hv : Ms X v.cells us) (hl : v.cells.length = z) (hcl : ∀ e ∈ es, e.cells.length = z) :
    Told X z (es.set i v) (cs.take (i * z) ++ us ++ cs.drop (i * z + z)) := by
  have hul : us.length = z := by rw [← Ms_length hv, hl]
  have hin : i * z + z ≤ es.length * z := by
    have := Nat.mul_le_mul_right z (Nat.succ_le_of_lt hi)
    rw [Nat.succ_mul] at this; exact this
  have hcs := h.1
  refine ⟨by simp only [List.length_append, List.length_take, List.length_drop, List.length_set, hul]; omega, fun k e he => ?_⟩
  by_cases ek : k = i
  · subst ek
    rw [List.getElem?_set_self hi] at he
    injection he with he; subst he
    refine ⟨us, hv, fun j u hj => ?_⟩
    have hjz : j < us.length := (List.getElem?_eq_some_iff.1 hj).1
    have e1 : (cs.take (k * z)).length = k * z := by simp only [List.length_take]; omega
    rw [List.append_assoc, List.getElem?_append_right (by omega), e1, Nat.add_sub_cancel_left, List.getElem?_append_left hjz]
    exact hj
  · rw [List.getElem?_set_ne (Ne.symm ek)] at he
    obtain ⟨vs, m1, m2⟩ := h.2 k e he
    refine ⟨vs, m1, fun j u hj => ?_⟩
    have hjz : j < z := by
      have := (List.getElem?_eq_some_iff.1 hj).1
      rw [← Ms_length m1, hcl e (List.mem_of_getElem? he)] at this; exact this
    have h4 := m2 j u hj
    have e1 : (cs.take (i * z)).length = i * z := by simp only [List.length_take]; omega
    rcases Nat.lt_or_gt_of_ne ek with hlt | hgt
    · have := Nat.mul_le_mul_right z (Nat.succ_le_of_lt hlt)
      rw [Nat.succ_mul] at this
      rw [List.append_assoc, List.getElem?_append_left (by omega), List.getElem?_take_of_lt (by omega)]
      exact h4
    · have := Nat.mul_le_mul_right z (Nat.succ_le_of_lt hgt)
      rw [Nat.succ_mul] at this
      have e2 : (cs.take (i * z) ++ us).length = i * z + z := by simp only [List.length_append, List.length_take, hul]; omega
      rw [List.getElem?_append_right (by omega), List.getElem?_drop]
      rw [e2, show i * z + z + (k * z + j - (i * z + z)) = k * z + j by omega]
      exact h4
theorem fillS_ok {z : Nat} {H : List AObj} : ∀ {ps : List (Nat × AV)} {qs : List (Nat × Value)} {es es' : List AV} {cells : Array Value}, Parts X ps qs → Told X z es cells.toList → (∀ e ∈ es, e.cells.length = z) → oneL es → setS z H es ps = some es' →
    ∃ cells', Instr.fill (fun i => some (i * z, z)) cells qs = some cells' ∧ Told X z es' cells'.toList ∧ (∀ e ∈ es', e.cells.length = z) ∧ oneL es' ∧ es'.length = es.length
  | [], qs, es, es', cells, hp, hc, hl, h1, h => by
    unfold Parts at hp
    subst hp
    simp only [setS, Option.some.injEq] at h
    subst h
    exact ⟨cells, rfl, hc, hl, h1, rfl⟩
  | (i, v) :: ps, qs, es, es', cells, hp, hc, hl, h1, h => by
    unfold Parts at hp
    obtain ⟨u, us, rfl, hm, hp⟩ := hp
    simp only [setS] at h
    split at h
    · rename_i hcond
      obtain ⟨c1, c2, c3⟩ := hcond
      have hms := cells_of c3 hm
      have hul : u.cells.size = z := by rw [← Array.length_toList, ← Ms_length hms, c1]
      have hsz : cells.toList.length = cells.size := Array.length_toList
      have hin : i * z + z ≤ es.length * z := by
        have := Nat.mul_le_mul_right z (Nat.succ_le_of_lt c2)
        rw [Nat.succ_mul] at this; exact this
      have hcs := hc.1
      have hput := put_cells u.cells (i * z) cells (by omega)
      obtain ⟨cells', k1, k2, k3, k4, k5⟩ := fillS_ok (H := H) (cells := u.cells.zipIdx.foldl (fun cs (p : Value × Nat) => cs.setIfInBounds (i * z + p.2) p.1) cells) hp (by
        rw [hput, hul]
        exact set_told hc c2 hms c1 hl) (fun e he => by
          rcases List.mem_or_eq_of_mem_set he with h2 | h2
          · exact hl e h2
          · rw [h2]; exact c1) (oneL_set h1 c3) h
      refine ⟨cells', ?_, k2, k3, k4, by simpa using k5⟩
      simp only [Instr.fill]
      rw [if_neg (by simp only [Bool.or_eq_true, decide_eq_true_eq, ne_eq]; omega)]
      exact k1
    · cases h
/-- A new block with elements of one's own. -/
theorem newrow_ok {z : Nat} {es : List AV} {c : Array Value} {el : TypeId} {m : Nat} (hR : Rel G X) (hz : 0 < z) (hc : Told X z es (c.toList.take (es.length * z))) (hcl : ∀ e ∈ es, e.cells.length = z) (hone : oneL es) (hm : es.length ≤ m) (hs : c.size = m * z) :
    ∃ X' : Cx, X'.w = { X.w with heap := X.w.heap.push (.cells c el) } ∧ X'.H = X.H ++ [.row z es] ∧ Rel G X' ∧ Ext X X' ∧ EscI X.H (X.H ++ [.row z es]) [] ∧
      M X' (.slc X.H.length 0 es.length es.length) (.slice (some ⟨X.w.heap.size, 0, none⟩) es.length m) := by
  have hbel : belL X.H.length es = true := by
    rw [belL_flat]
    intro e he
    obtain ⟨i, hi, rfl⟩ := List.getElem_of_mem he
    obtain ⟨vs, m1, _⟩ := hc.2 i _ (List.getElem?_eq_getElem hi)
    exact Ms_bel _ _ m1
  have hle : es.length * z ≤ c.size := by rw [hs]; exact Nat.mul_le_mul_right z hm
  obtain ⟨w1, w2⟩ := push_ok (w' := { X.w with heap := X.w.heap.push (.cells c el) }) (c := c) (el := el) (fr := (0, 0)) hR rfl rfl rfl rfl (z := z) (es := es) hz
    (fun i e he => by
      obtain ⟨vs, m1, m2⟩ := hc.2 i e he
      refine ⟨hcl e (List.mem_of_getElem? he), vs, m1, fun j v hj => ?_⟩
      have h4 := m2 j v hj
      have hlt := (List.getElem?_eq_some_iff.1 h4).1
      rw [List.getElem?_take_of_lt (by simp at hlt; omega), Array.getElem?_toList] at h4
      exact h4) hone hle (.inl rfl) (H' := X.H ++ [.row z es]) (l := X.H.length) (by simp) (fun k hk => by
        rcases Nat.lt_or_ge k X.H.length with hlt | hge
        · rw [List.getElem?_append_left hlt]
        · rw [List.getElem?_eq_none (by simp; omega), List.getElem?_eq_none hge]) (by simp) (fun h => absurd h (Nat.lt_irrefl _)) (escI_new hbel)
  refine ⟨_, rfl, rfl, w1, w2, escI_new hbel, ?_⟩
  unfold M
  refine ⟨⟨by simp, _, _, _, rfl⟩, fun t ht => ?_, fun _ => .inr ⟨by simp [isRow], _, m, X.w.heap.size, z, c.size, by simp [upd], rfl, by simp, hm, by simp [sizeAt], .inr ⟨by simp, by simp [hs]⟩⟩⟩
  simp [lenOf] at ht; omega
end
end Go.Pm
namespace Go.Pm
set_option linter.unusedVariables false
set_option linter.unusedSimpArgs false
section
variable {P : Program} {G : Nat → Option (List AV)} {X : Cx} {o : Oper} {a : Act} {T : List AV}
/-- A new block that nobody will write. -/
theorem push_im (hR : Rel G X) {w' : World} (hold : ∀ b, b < X.w.heap.size → w'.heap[b]? = X.w.heap[b]?) (hsz : X.w.heap.size < w'.heap.size) (ht : w'.tape = X.w.tape) (ho : w'.os = X.w.os) (hu : w'.output = X.w.output) :
    Rel G ⟨X.F, X.ι, X.H, w'⟩ ∧ Ext X ⟨X.F, X.ι, X.H, w'⟩ ∧ (⟨X.F, X.ι, X.H, w'⟩ : Cx).im X.w.heap.size := by
  have hcell : ∀ b j u, cellAt X.w b j = some u → cellAt w' b j = some u := fun b j u h => by
    have hb := lt_of_cellAt h
    unfold cellAt at h ⊢; rw [hold b hb]; exact h
  have hsize : ∀ b s, sizeAt X.w b = some s → sizeAt w' b = some s := fun b s h => by
    have hb := lt_of_sizeAt h
    unfold sizeAt at h ⊢; rw [hold b hb]; exact h
  have hE : Ext X ⟨X.F, X.ι, X.H, w'⟩ :=
    ⟨Nat.le_of_lt hsz, Nat.le_refl _, fun b hb _ => hold b hb, fun b _ hw => hw, fun l t hl h => ⟨t, h, Nat.le_refl _, fun _ => ⟨fun hr => ⟨hr, fun b z hb => ⟨hb, by
      obtain ⟨z1, es1, he⟩ := isRow_some hr
      obtain ⟨_, _, _, _, s, hs, _⟩ := hR.rows l z1 es1 b z he hb
      rw [hs]; exact hsize b s hs⟩⟩, fun h => h⟩⟩, ht, ho, hu, rfl, fun l _ h => ⟨h, rfl⟩⟩
  refine ⟨⟨fun l z es b z' h1 h2 => ?_, fun l l' b z z' h1 h2 h3 h4 => hR.inj l l' b z z' h1 h2 h3 h4, maps_keep hR hE (fun _ _ h => h) (fun b cs c h => (hold b (Array.getElem?_eq_some_iff.1 h).1).trans h), fun g cs hg => ?_, hR.wf, fb_keep hR hE, hR.gb⟩, hE, ⟨hsz, fun k hf => absurd (hR.fb _ k hf).1 (Nat.lt_irrefl _)⟩, fun hw => ?_⟩
  · obtain ⟨e1, e2, e3, ee, s, e4, e5, e6⟩ := hR.rows l z es b z' h1 h2
    refine ⟨e1, e2, Me_mono hE _ _ _ _ (fun j u hj => hcell b j u hj) e3, ee, s, hsize b s e4, e5, unmark_eq e6 (hold b (lt_of_sizeAt e4))⟩
  · obtain ⟨h1, h2⟩ := hR.glob g cs hg
    exact ⟨im_keep hE h1, Mc_mono hE _ _ _ (fun j u hj => hcell g j u hj) h2⟩
  · have := hR.wr_lt (b := X.w.heap.size) hw
    omega
/-- A new variable that nobody will write. -/
theorem newi_ok {v : AV} {u : Value} {t : TypeId} (hR : Rel G X) (h1 : v.cells.all AV.one = true) (hm : M X v u) :
    ∃ X', (newVar t u).run P X.w = .ok ⟨X.w.heap.size, 0, none⟩ X'.w ∧ X'.H = X.H ∧ Rel G X' ∧ Ext X X' ∧ M X' (.ip v.cells) (.pointer (some ⟨X.w.heap.size, 0, none⟩)) := by
  have hs := cells_of h1 hm
  obtain ⟨k1, k2, k3⟩ := push_im (w' := { X.w with heap := X.w.heap.push (.cells u.cells t) }) hR (fun b hb => by simp [Array.getElem?_push_lt, hb, Nat.ne_of_lt hb, Array.getElem?_push]) (by simp) rfl rfl rfl
  refine ⟨⟨X.F, X.ι, X.H, { X.w with heap := X.w.heap.push (.cells u.cells t) }⟩, by simp [newVar, newRow], rfl, k1, k2, ?_⟩
  unfold M
  refine ⟨X.w.heap.size, 0, rfl, k3, Mc_of_vals (Ms_mono k2 _ _ hs) fun j v' hj => ?_⟩
  unfold cellAt
  simp only [Array.getElem?_push_size, Nat.zero_add]
  simpa using hj
/-- The list that such a block holds. -/
theorem lst_of {X' : Cx} {z b : Nat} {es : List AV} {c : Nat} (hz : 0 < z) (hone : oneL es) (him : X'.im b) (hm : Me X' es b 0 z) (hc : es.length ≤ c) : M X' (.lst es) (.slice (some ⟨b, 0, none⟩) es.length c) := by
  unfold M
  exact ⟨_, c, rfl, hc, hone, fun _ => ⟨b, 0, z, rfl, hz, him, hm⟩⟩

theorem kills_ofVal1 (v : Value) : kills (ofVal1 v) = [] := by
  cases v with
  | pointer p => cases p <;> rfl
  | map p => cases p <;> rfl
  | slice p l c =>
    cases p with
    | some p => rfl
    | none => cases l <;> cases c <;> rfl
  | tuple vs => simp only [ofVal1]; split <;> rfl
  | _ => rfl
theorem killsL_map (l : List Value) : killsL (l.map ofVal1) = [] := by
  induction l with
  | nil => rfl
  | cons v l ih => simp [killsL, kills_ofVal1, ih]
theorem kills_ofVal (v : Value) : kills (ofVal v) = [] := by
  unfold ofVal
  split
  · simp [kills, killsL_map]
  · exact kills_ofVal1 v

theorem slice_lit_raw {t e : TypeId} {ag : Bool} {z n : Nat} {zv : AV} {parts : Array (Nat × Value)} {ps : List (Nat × AV)} {es : List AV} (hR : Rel G X) (ht : P.underlying t = some (.slice e)) (hz : tk P e = some (ag, z)) (hzv : zeroT P e = some zv)
    (hn : n * z ≤ 16777216) (hzl : zv.cells.length = z) (hz0 : 0 < z) (hzone : zv.cells.all AV.one = true) (hzb : zv.isBad = false) (hp : Parts X ps parts.toList) (h : setS z X.H (List.replicate n zv) ps = some es) :
    ∃ c : Array Value, (Instr.buildSlice t n parts).run P X.w = .ok (.slice (some ⟨X.w.heap.size, 0, none⟩) n n) { X.w with heap := X.w.heap.push (.cells c e) } ∧
      Told X z es c.toList ∧ (∀ e ∈ es, e.cells.length = z) ∧ oneL es ∧ es.length = n := by
  obtain ⟨d, i, _, _, _, _, _, hsz⟩ := tk_some hz
  obtain ⟨inf, zval, hi, hzz, rfl, hzrun⟩ := zeroT_some hzv
  have hms : Ms X (ofVal zval).cells zval.cells.toList := ofVal_cells hzb
  have hs : zval.cells.size = z := by rw [← Array.length_toList, ← Ms_length hms, hzl]
  obtain ⟨cells', k1, k2, k3, k4, k5⟩ := fillS_ok (H := X.H) hp (zero_told n hms hzl hz0) (fun e he => by rw [(List.mem_replicate.1 he).2]; exact hzl) (fun e he => by rw [(List.mem_replicate.1 he).2]; exact hzone) h
  refine ⟨cells', ?_, k2, k3, k4, by simpa using k5⟩
  unfold Instr.buildSlice
  simp only [Sem.run_bind, run_underlying ht, Result.andThen_ok, hsz]
  rw [if_neg (by omega)]
  by_cases h0 : n * z = 0
  · simp only [h0, if_true, Sem.run_bind, Sem.run_pure, Result.andThen_ok]
    have : ((Array.range 0).map fun x => (#[] : Array Value)[x % (#[] : Array Value).size]!) = (Array.range (n * z)).map (zval.cells[· % zval.cells.size]!) := by rw [h0]; simp
    rw [this, k1]
    simp [newRow]
  · simp only [h0, if_false, Sem.run_bind, Sem.run_pure, Result.andThen_ok, hzrun]
    rw [k1]
    simp [newRow]

theorem Parts_zip : ∀ {ps : List (Nat × AV)} {qs : List (Nat × Value)}, Parts X ps qs → Ms X (ps.map (·.2)) (qs.map (·.2)) ∧ ps.map (·.1) = qs.map (·.1)
  | [], _, h => by unfold Parts at h; subst h; simp [Ms]
  | (i, v) :: ps, _, h => by
    unfold Parts at h
    obtain ⟨u, us, rfl, hm, h⟩ := h
    obtain ⟨h1, h2⟩ := Parts_zip h
    simp only [List.map]
    exact ⟨by unfold Ms; exact ⟨u, _, rfl, hm, h1⟩, by rw [h2]⟩
theorem Parts_mk : ∀ {is : List Nat} {vs : List AV} {qs : List (Nat × Value)}, Ms X vs (qs.map (·.2)) → is = qs.map (·.1) → Parts X (is.zip vs) qs
  | [], vs, qs, h1, h2 => by
    cases qs with
    | nil => simp [Parts]
    | cons q qs => simp at h2
  | i :: is, vs, qs, h1, h2 => by
    cases qs with
    | nil => simp at h2
    | cons q qs =>
      simp only [List.map, List.cons.injEq] at h2
      obtain ⟨rfl, h2⟩ := h2
      cases vs with
      | nil => simp [Ms] at h1
      | cons v vs =>
        simp only [List.map] at h1
        unfold Ms at h1
        obtain ⟨u, us, he, hm, h1⟩ := h1
        injection he with e1 e2
        subst e1; subst e2
        simp only [List.zip_cons_cons]
        unfold Parts
        exact ⟨q.2, qs, rfl, hm, Parts_mk h1 h2⟩
end
end Go.Pm
namespace Go.Pm
open Go.MapKept
set_option linter.unusedVariables false
set_option linter.unusedSimpArgs false
section
variable {P : Program} {G : Nat → Option (List AV)} {X : Cx} {o : Oper} {a : Act} {T : List AV}
theorem keyV_M {k : AV} {kv u : Value} (h : keyV k = some kv) (hm : M X k u) : u = kv := by
  cases k <;> simp [keyV] at h
  · unfold M at hm; rw [hm, h]
  · unfold M at hm; rw [hm, h]
theorem keyOk_V {d : TypeDesc} {k : AV} (h : keyOk (some d) k = true) : ∃ kv, keyV k = some kv ∧ IsKey d kv := by
  cases d <;> cases k <;> simp [keyOk] at h
  · exact ⟨_, rfl, by simp [IsKey, h]⟩
  · exact ⟨_, rfl, by simp [IsKey]⟩
theorem bl_ext {a b : ByteArray} (h : bl a = bl b) : a = b := by
  obtain ⟨x⟩ := a
  obtain ⟨y⟩ := b
  have : x = y := Array.toList_inj.1 h
  rw [this]
theorem eqK_ok {d : TypeDesc} {k p : AV} {kv pv : Value} {b : Bool} (hd : keyOk (some d) k = true) (hk : keyV k = some kv) (hp : keyV p = some pv) (h : eqK k p = some b) : Instr.sameNow d kv pv = some b ∧ (b = true ↔ kv = pv) := by
  cases k with
  | int k1 x =>
    cases p with
    | int k2 y =>
      simp only [keyV, Option.some.injEq] at hk hp
      subst hk; subst hp
      cases d <;> simp [keyOk] at hd
      simp only [eqK] at h
      split at h
      · rename_i e; subst e
        injection h with h
        subst h
        refine ⟨by simp only [Instr.sameNow, if_true]; rfl, by simp⟩
      · cases h
    | _ => simp [eqK] at h
  | str x =>
    cases p with
    | str y =>
      simp only [keyV, Option.some.injEq] at hk hp
      subst hk; subst hp
      cases d <;> simp [keyOk] at hd
      simp only [eqK, Option.some.injEq] at h
      subst h
      have hb : (x == y) = decide (bl x = bl y) := by
        rw [Bool.eq_iff_iff, bytes_beq]
        simp only [decide_eq_true_eq]
        exact ⟨fun e => by rw [e], bl_ext⟩
      refine ⟨by simp [Instr.sameNow, hb], ?_⟩
      simp only [decide_eq_true_eq, Value.string.injEq]
      exact ⟨bl_ext, fun e => by rw [e]⟩
    | _ => simp [eqK] at h
  | _ => simp [keyV] at hk
theorem findM_ok {d : TypeDesc} {k : AV} {kv : Value} (hd : keyOk (some d) k = true) (hk : keyV k = some kv) : ∀ (es : List (AV × AV)) (cs : List MapEntry) (i : Nat) (r : Option (Nat × AV)), EntM X es cs → findM k es i = some r →
    (r = none ∧ Instr.findNow d kv cs i = some none ∧ ∀ e ∈ cs, e.key ≠ kv) ∨ ∃ n v e, r = some (i + n, v) ∧ Instr.findNow d kv cs i = some (some (i + n, e.val)) ∧ cs[n]? = some e ∧ e.key = kv ∧ M X v e.val
  | [], cs, i, r, hm, h => by
    unfold EntM at hm
    subst hm
    simp only [findM, Option.some.injEq] at h
    exact .inl ⟨h.symm, rfl, by simp⟩
  | p :: es, cs, i, r, hm, h => by
    unfold EntM at hm
    obtain ⟨e, cs', rfl, h1, h2, h3⟩ := hm
    simp only [findM, Option.bind_eq_some_iff] at h
    obtain ⟨b, hb, h⟩ := h
    obtain ⟨k1, k2⟩ := eqK_ok hd hk h1 hb
    cases b with
    | true =>
      simp only [if_true, Option.some.injEq] at h
      refine .inr ⟨0, p.2, e, h.symm, by simp [Instr.findNow, k1], rfl, (k2.1 rfl).symm, h2⟩
    | false =>
      simp only [Bool.false_eq_true, if_false] at h
      have hne : e.key ≠ kv := fun q => by have := k2.2 q.symm; cases this
      rcases findM_ok hd hk es cs' (i + 1) r h3 h with ⟨q1, q2, q3⟩ | ⟨n, v, e', q1, q2, q3, q4, q5⟩
      · exact .inl ⟨q1, by simp [Instr.findNow, k1, q2], fun x hx => by
          cases hx with
          | head => exact hne
          | tail _ hx => exact q3 x hx⟩
      · exact .inr ⟨n + 1, v, e', by rw [q1]; congr 2; omega, by simp [Instr.findNow, k1, q2]; omega, by simpa using q3, q4, q5⟩
theorem EntM_push {es : List (AV × AV)} {k v : AV} {e : MapEntry} : ∀ {cs : List MapEntry}, EntM X es cs → keyV k = some e.key → M X v e.val → EntM X (es ++ [(k, v)]) (cs ++ [e]) := by
  induction es with
  | nil =>
    intro cs h h1 h2
    unfold EntM at h
    subst h
    simp only [List.nil_append]
    unfold EntM
    exact ⟨e, [], rfl, h1, h2, by simp [EntM]⟩
  | cons p es ih =>
    intro cs h h1 h2
    unfold EntM at h
    obtain ⟨e', r, rfl, q1, q2, q3⟩ := h
    simp only [List.cons_append]
    unfold EntM
    exact ⟨e', _, rfl, q1, q2, ih q3 h1 h2⟩
theorem EntM_set {k v : AV} {e : MapEntry} : ∀ {es : List (AV × AV)} {cs : List MapEntry} (n : Nat), EntM X es cs → keyV k = some e.key → M X v e.val → EntM X (es.set n (k, v)) (cs.set n e)
  | [], cs, n, h, _, _ => by unfold EntM at h; subst h; simp [EntM]
  | p :: es, cs, n, h, h1, h2 => by
    unfold EntM at h
    obtain ⟨e', r, rfl, q1, q2, q3⟩ := h
    cases n with
    | zero => simp only [List.set_cons_zero]; unfold EntM; exact ⟨e, r, rfl, h1, h2, q3⟩
    | succ n => simp only [List.set_cons_succ]; unfold EntM; exact ⟨e', _, rfl, q1, q2, EntM_set n q3 h1 h2⟩
theorem EntM_erase : ∀ {es : List (AV × AV)} {cs : List MapEntry} (n : Nat), EntM X es cs → EntM X (es.eraseIdx n) (cs.eraseIdx n)
  | [], cs, n, h => by unfold EntM at h; subst h; simp [EntM]
  | p :: es, cs, n, h => by
    unfold EntM at h
    obtain ⟨e', r, rfl, q1, q2, q3⟩ := h
    cases n with
    | zero => simpa using q3
    | succ n => simp only [List.eraseIdx_cons_succ]; unfold EntM; exact ⟨e', _, rfl, q1, q2, EntM_erase n q3⟩
/-- A map written. -/
theorem mapw_ok {G : Nat → Option (List AV)} {X : Cx} (hR : Rel G X) {l b z : Nat} {es es' : List (AV × AV)} (hl : X.H[l]? = some (.mp es)) (hi : X.ι l = some (b, z)) {cs' : Array MapEntry} {c' : Nat}
    (hent : EntM X es' cs'.toList) (hst : Stamped cs' c') (hsz : cs'.size ≤ 2^40) (hb0 : ∀ p ∈ es', p.2.bel 0 = true) :
    Rel G ⟨X.F, X.ι, X.H.set l (.mp es'), { X.w with heap := X.w.heap.setIfInBounds b (.map cs' c') }⟩ ∧ Ext X ⟨X.F, X.ι, X.H.set l (.mp es'), { X.w with heap := X.w.heap.setIfInBounds b (.map cs' c') }⟩ ∧ EscI X.H (X.H.set l (.mp es')) [] := by
  have hll : l < X.H.length := (List.getElem?_eq_some_iff.1 hl).1
  obtain ⟨cs, c, hb, _, _, _⟩ := hR.maps.1 l es b z hl hi
  obtain ⟨g1, g2⟩ := heap_set (o' := .map cs' c') hb
  have hset : (X.H.set l (AObj.mp es'))[l]? = some (.mp es') := by simp [hll]
  have hoth : ∀ k, k ≠ l → (X.H.set l (AObj.mp es'))[k]? = X.H[k]? := fun k hk => by simp [Ne.symm hk]
  have hrow : ∀ (k z1 : Nat) (es1 : List AV), (X.H.set l (AObj.mp es'))[k]? = some (AObj.row z1 es1) → k ≠ l ∧ X.H[k]? = some (AObj.row z1 es1) := fun k z1 es1 h => by
    by_cases e : k = l
    · rw [e, hset] at h; cases h
    · rw [hoth k e] at h; exact ⟨e, h⟩
  have hmp : ∀ k, isMp (X.H.set l (AObj.mp es'))[k]? ↔ isMp X.H[k]? := fun k => by
    by_cases e : k = l
    · subst e; rw [hset, hl]; simp [isMp]
    · rw [hoth k e]
  have hisr : ∀ k, isRow (X.H.set l (AObj.mp es'))[k]? ↔ isRow X.H[k]? := fun k => by
    by_cases e : k = l
    · subst e; rw [hset, hl]; simp [isRow]
    · rw [hoth k e]
  have how : ∀ k, isOwn (X.H.set l (AObj.mp es'))[k]? ↔ isOwn X.H[k]? := fun k => or_congr (hisr k) (hmp k)
  have hwr : X.wr b := ⟨l, z, .inr (by rw [hl]; simp [isMp]), hi⟩
  have hnb : ∀ k z1 es1 b1 z2, X.H[k]? = some (AObj.row z1 es1) → X.ι k = some (b1, z2) → b1 ≠ b := fun k z1 es1 b1 z2 h1 h2 e => by
    subst e
    have := hR.inj k l b1 z2 z (.inl (by rw [h1]; simp [isRow])) (.inr (by rw [hl]; simp [isMp])) h2 hi
    rw [this, hl] at h1; cases h1
  have hcell : ∀ b1, b1 ≠ b → ∀ j, cellAt ({ X.w with heap := X.w.heap.setIfInBounds b (.map cs' c') } : World) b1 j = cellAt X.w b1 j := fun b1 h j => by
    unfold cellAt; simp only [g2 b1 h]
  have hsize : ∀ b1, sizeAt ({ X.w with heap := X.w.heap.setIfInBounds b (.map cs' c') } : World) b1 = sizeAt X.w b1 := fun b1 => by
    unfold sizeAt
    by_cases e : b1 = b
    · subst e; simp only [g1, hb]
    · simp only [g2 b1 e]
  have hE : Ext X ⟨X.F, X.ι, X.H.set l (.mp es'), { X.w with heap := X.w.heap.setIfInBounds b (.map cs' c') }⟩ := by
    refine ⟨by simp, by simp, fun b' _ hw => g2 b' (fun e => hw (e ▸ hwr)), fun b' _ hw => ?_, fun k t hk hkt => ?_, rfl, rfl, rfl, rfl, fun k _ hm => ⟨(hmp k).1 hm, rfl⟩⟩
    · obtain ⟨k, z', hr, hi'⟩ := hw
      exact ⟨k, z', (how k).1 hr, hi'⟩
    · have e : k ≠ l := fun e => by subst e; simp [lenOf, hset] at hkt
      have hk' : lenOf X.H k = some t := by simpa only [lenOf, hoth k e] using hkt
      exact ⟨t, hk', Nat.le_refl _, fun _ => ⟨fun hr => ⟨(hisr k).2 hr, fun b' z' hb' => ⟨hb', hsize b'⟩⟩, fun hv => by rw [← hv]; exact hoth k e⟩⟩
  refine ⟨⟨fun k z1 es1 b1 z' h1 h2 => ?_, fun k k' b1 z1 z2 h1 h2 h3 h4 => hR.inj k k' b1 z1 z2 ((how k).1 h1) ((how k').1 h2) h3 h4, ⟨fun k es1 b1 z1 h1 h2 => ?_, fun k es1 h1 => ?_⟩, fun g cs hg => ?_, fun k z1 es1 h1 => ?_, fb_keep hR hE, hR.gb⟩, hE, fun k z1 es1 h => .inr fun m hm hp => hp z1 es1 (hrow k z1 es1 h).2⟩
  · obtain ⟨e, h1'⟩ := hrow k z1 es1 h1
    obtain ⟨e1, e2, e3, ee, s, e4, e5, e6⟩ := hR.rows k z1 es1 b1 z' h1' h2
    have hne := hnb k z1 es1 b1 z' h1' h2
    exact ⟨e1, e2, Me_mono hE _ _ _ _ (fun j u hj => (hcell b1 hne j).trans hj) e3, ee, s, (hsize b1).trans e4, e5, unmark_eq e6 (g2 b1 hne)⟩
  · by_cases e : k = l
    · subst e
      simp only [hset, Option.some.injEq, AObj.mp.injEq] at h1
      subst h1
      have h2' : X.ι k = some (b1, z1) := h2
      rw [hi] at h2'
      injection h2' with h2'; injection h2' with h3 h4
      subst h3
      exact ⟨cs', c', g1, EntM_map (fun v u _ hv => M_mono hE v u hv) hb0 hent, hst, hsz⟩
    · simp only [hoth k e] at h1
      obtain ⟨cs1, c1, k1, k2, k3, k4⟩ := hR.maps.1 k es1 b1 z1 h1 h2
      have hne : b1 ≠ b := fun q => by
        subst q
        exact e (hR.inj k l b1 z1 z (.inr (by rw [h1]; simp [isMp])) (.inr (by rw [hl]; simp [isMp])) h2 hi)
      exact ⟨cs1, c1, (g2 b1 hne).trans k1, EntM_map (fun v u _ hv => M_mono hE v u hv) (hR.maps.2 k es1 h1) k2, k3, k4⟩
  · by_cases e : k = l
    · subst e
      simp only [hset, Option.some.injEq, AObj.mp.injEq] at h1
      subst h1; exact hb0
    · simp only [hoth k e] at h1; exact hR.maps.2 k es1 h1
  · obtain ⟨h1, h2⟩ := hR.glob g cs hg
    exact ⟨im_keep hE h1, Mc_mono hE _ _ _ (fun j u hj => cellAt_keep hE h1.2 hj) h2⟩
  · exact belL_mono (by simp) _ (hR.wf k z1 es1 (hrow k z1 es1 h1).2)
/-- A new map. -/
theorem newm_ok {G : Nat → Option (List AV)} {X : Cx} (hR : Rel G X) :
    Rel G ⟨X.F, upd X.ι X.H.length (X.w.heap.size, 0), X.H ++ [.mp []], { X.w with heap := X.w.heap.push (.map #[] 0) }⟩ ∧ Ext X ⟨X.F, upd X.ι X.H.length (X.w.heap.size, 0), X.H ++ [.mp []], { X.w with heap := X.w.heap.push (.map #[] 0) }⟩ ∧ EscI X.H (X.H ++ [.mp []]) [] ∧
    M ⟨X.F, upd X.ι X.H.length (X.w.heap.size, 0), X.H ++ [.mp []], { X.w with heap := X.w.heap.push (.map #[] 0) }⟩ (.mp X.H.length) (.map (some X.w.heap.size)) := by
  have hold : ∀ b, b < X.w.heap.size → (X.w.heap.push (.map #[] 0))[b]? = X.w.heap[b]? := fun b hb => by
    rw [Array.getElem?_push_lt hb]; simp [hb]
  have hnewb : (X.w.heap.push (.map #[] 0))[X.w.heap.size]? = some (.map #[] 0) := by simp
  have hlt : ∀ l, l < X.H.length → (X.H ++ [AObj.mp []])[l]? = X.H[l]? := fun l hl => List.getElem?_append_left hl
  have hnw : (X.H ++ [AObj.mp []])[X.H.length]? = some (.mp []) := by simp
  have hrow : ∀ (k z1 : Nat) (es1 : List AV), (X.H ++ [AObj.mp []])[k]? = some (AObj.row z1 es1) → k < X.H.length ∧ X.H[k]? = some (AObj.row z1 es1) := fun k z1 es1 h => by
    rcases Nat.lt_or_ge k X.H.length with h1 | h1
    · rw [hlt k h1] at h; exact ⟨h1, h⟩
    · have h2 : k < (X.H ++ [AObj.mp []]).length := (List.getElem?_eq_some_iff.1 h).1
      simp at h2
      obtain rfl : k = X.H.length := by omega
      rw [hnw] at h; cases h
  have hmp : ∀ (k : Nat) (es1 : List (AV × AV)), (X.H ++ [AObj.mp []])[k]? = some (AObj.mp es1) → (k < X.H.length ∧ X.H[k]? = some (AObj.mp es1)) ∨ (k = X.H.length ∧ es1 = []) := fun k es1 h => by
    rcases Nat.lt_or_ge k X.H.length with h1 | h1
    · rw [hlt k h1] at h; exact .inl ⟨h1, h⟩
    · have h2 : k < (X.H ++ [AObj.mp []]).length := (List.getElem?_eq_some_iff.1 h).1
      simp at h2
      obtain rfl : k = X.H.length := by omega
      rw [hnw] at h; injection h with h; injection h with h; exact .inr ⟨rfl, h.symm⟩
  have how : ∀ k, isOwn (X.H ++ [AObj.mp []])[k]? → (k < X.H.length ∧ isOwn X.H[k]?) ∨ k = X.H.length := fun k h => by
    rcases h with h | h
    · obtain ⟨z1, es1, he⟩ := isRow_some h
      obtain ⟨h1, h2⟩ := hrow k z1 es1 he
      exact .inl ⟨h1, .inl (by rw [h2]; simp [isRow])⟩
    · obtain ⟨es1, he⟩ := isMp_some h
      rcases hmp k es1 he with ⟨h1, h2⟩ | ⟨h1, _⟩
      · exact .inl ⟨h1, .inr (by rw [h2]; simp [isMp])⟩
      · exact .inr h1
  have hupd : ∀ l, l < X.H.length → upd X.ι X.H.length (X.w.heap.size, 0) l = X.ι l := fun l hl => by unfold upd; rw [if_neg (by omega)]
  have hupd' : upd X.ι X.H.length (X.w.heap.size, 0) X.H.length = some (X.w.heap.size, 0) := by unfold upd; rw [if_pos rfl]
  have hcell : ∀ b j u, cellAt X.w b j = some u → cellAt ({ X.w with heap := X.w.heap.push (.map #[] 0) } : World) b j = some u := fun b j u h => by
    have hb := lt_of_cellAt h
    unfold cellAt at h ⊢; simp only [hold b hb]; exact h
  have hsize : ∀ b s, sizeAt X.w b = some s → sizeAt ({ X.w with heap := X.w.heap.push (.map #[] 0) } : World) b = some s := fun b s h => by
    have hb := lt_of_sizeAt h
    unfold sizeAt at h ⊢; simp only [hold b hb]; exact h
  have hE : Ext X ⟨X.F, upd X.ι X.H.length (X.w.heap.size, 0), X.H ++ [.mp []], { X.w with heap := X.w.heap.push (.map #[] 0) }⟩ := by
    refine ⟨by simp, by simp, fun b hb _ => hold b hb, fun b hb hw => ?_, fun k t hk hkt => ?_, rfl, rfl, rfl, rfl, fun k hk hm => ?_⟩
    · obtain ⟨k, z', hr, hi'⟩ := hw
      simp only at hr hi'
      rcases how k hr with ⟨h1, h2⟩ | rfl
      · rw [hupd k h1] at hi'; exact ⟨k, z', h2, hi'⟩
      · rw [hupd'] at hi'; injection hi' with hi'; injection hi' with hi' _; omega
    · have hk' : lenOf X.H k = some t := by simpa only [lenOf, hlt k hk] using hkt
      refine ⟨t, hk', Nat.le_refl _, fun _ => ⟨fun hr => ⟨by show isRow (X.H ++ [AObj.mp []])[k]?; rw [hlt k hk]; exact hr, fun b z hb => ⟨(hupd k hk).trans hb, ?_⟩⟩, fun hv => (hlt k hk).trans hv⟩⟩
      obtain ⟨z1, es1, he⟩ := isRow_some hr
      obtain ⟨_, _, _, _, s, hs, _⟩ := hR.rows k z1 es1 b z he hb
      rw [hs]; exact hsize b s hs
    · have hm' : isMp (X.H ++ [AObj.mp []])[k]? := hm
      rw [hlt k hk] at hm'
      exact ⟨hm', hupd k hk⟩
  refine ⟨⟨fun k z1 es1 b1 z' h1 h2 => ?_, fun k k' b1 z1 z2 h1 h2 h3 h4 => ?_, ⟨fun k es1 b1 z1 h1 h2 => ?_, fun k es1 h1 => ?_⟩, fun g cs hg => ?_, fun k z1 es1 h1 => ?_, fb_keep hR hE, hR.gb⟩, hE, fun k z1 es1 h => .inr fun m hm hp => hp z1 es1 (hrow k z1 es1 h).2, ?_⟩
  · obtain ⟨e, h1'⟩ := hrow k z1 es1 h1
    simp only at h2
    rw [hupd k e] at h2
    obtain ⟨e1, e2, e3, ee, s, e4, e5, e6⟩ := hR.rows k z1 es1 b1 z' h1' h2
    exact ⟨e1, e2, Me_mono hE _ _ _ _ (fun j u hj => hcell b1 j u hj) e3, ee, s, hsize b1 s e4, e5, unmark_eq e6 (hold b1 (lt_of_sizeAt e4))⟩
  · simp only at h3 h4
    have key : ∀ k z1, k < X.H.length → isOwn X.H[k]? → X.ι k ≠ some (X.w.heap.size, z1) := fun k z1 hk hr e => by
      have := hR.wr_lt ⟨k, z1, hr, e⟩
      omega
    rcases how k h1 with ⟨a1, a2⟩ | rfl <;> rcases how k' h2 with ⟨c1, c2⟩ | rfl
    · rw [hupd k a1] at h3; rw [hupd k' c1] at h4
      exact hR.inj k k' b1 z1 z2 a2 c2 h3 h4
    · rw [hupd k a1] at h3; rw [hupd'] at h4
      injection h4 with h4; injection h4 with h4 _; subst h4
      exact absurd h3 (key k z1 a1 a2)
    · rw [hupd'] at h3; rw [hupd k' c1] at h4
      injection h3 with h3; injection h3 with h3 _; subst h3
      exact absurd h4 (key k' z2 c1 c2)
    · rfl
  · simp only at h2
    rcases hmp k es1 h1 with ⟨a1, a2⟩ | ⟨rfl, rfl⟩
    · rw [hupd k a1] at h2
      obtain ⟨cs1, c1, k1, k2, k3, k4⟩ := hR.maps.1 k es1 b1 z1 a2 h2
      exact ⟨cs1, c1, (hold b1 (Array.getElem?_eq_some_iff.1 k1).1).trans k1, EntM_map (fun v u _ hv => M_mono hE v u hv) (hR.maps.2 k es1 a2) k2, k3, k4⟩
    · rw [hupd'] at h2
      injection h2 with h2; injection h2 with h2 _
      subst h2
      exact ⟨#[], 0, hnewb, by simp [EntM], stamped_empty 0, by simp⟩
  · rcases hmp k es1 h1 with ⟨a1, a2⟩ | ⟨_, rfl⟩
    · exact hR.maps.2 k es1 a2
    · simp
  · obtain ⟨h1, h2⟩ := hR.glob g cs hg
    exact ⟨im_keep hE h1, Mc_mono hE _ _ _ (fun j u hj => hcell g j u hj) h2⟩
  · exact belL_mono (by simp) _ (hR.wf k z1 es1 (hrow k z1 es1 h1).2)
  · unfold M
    exact ⟨⟨by simp, _, rfl⟩, fun _ => ⟨X.w.heap.size, 0, hupd', rfl⟩⟩
theorem keyOk_some {kt : TypeId} {k : AV} (h : keyOk (P.underlying kt) k = true) : ∃ d, P.underlying kt = some d ∧ keyOk (some d) k = true := by
  cases hd : P.underlying kt with
  | none => rw [hd] at h; cases k <;> simp [keyOk] at h
  | some d => exact ⟨d, rfl, by rw [hd] at h; exact h⟩
theorem M_lookR {z v : AV} {zv u : Value} {ok b : Bool} {i : Nat} (hz : M X z zv) (hv : M X v u) : M X (lookR z ok (if b = true then some (i, v) else none)) (if ok = true then .tuple #[(if b = true then u else zv), .bool b] else (if b = true then u else zv)) := by
  cases b <;> cases ok <;> simp only [lookR, if_true, Bool.false_eq_true, if_false]
  · exact hz
  · unfold M; exact ⟨_, rfl, by simp only [Ms]; exact ⟨zv, _, rfl, hz, _, _, rfl, by unfold M; rfl, rfl⟩⟩
  · exact hv
  · unfold M; exact ⟨_, rfl, by simp only [Ms]; exact ⟨u, _, rfl, hv, _, _, rfl, by unfold M; rfl, rfl⟩⟩
theorem look_ok (hR : Rel G X) {t kt et : TypeId} {z zA x k v : AV} {ok : Bool} {p q : Value} (ht : P.underlying t = some (.map kt et)) (hko : keyOk (P.underlying kt) k = true) (hz : zeroT P et = some zA) (hx : M X x p) (hk : M X k q) (h : lookA zA ok x k X.H = some v) :
    ∃ u, (Instr.lookup t p q ok).run P X.w = .ok u X.w ∧ M X v u := by
  obtain ⟨d, hd, hkd⟩ := keyOk_some hko
  obtain ⟨kv, hkv, hik⟩ := keyOk_V hkd
  have hq := keyV_M hkv hk
  subst hq
  obtain ⟨inf, zval, _, _, rfl, hzr⟩ := zeroT_some hz
  have hzM := M_ofVal X zval
  unfold lookA at h
  split at h
  · injection h with h; subst h
    unfold M at hx; subst hx
    refine ⟨_, ?_, M_lookR (b := false) (i := 0) (ok := ok) hzM hzM⟩
    simp [Instr.lookup, run_underlying ht, run_checkKey hd hik, run_findKey hd (show Instr.findNow d q [] 0 = some none from rfl), hzr, Result.andThen]
  · rename_i l
    split at h
    · rename_i es hl
      unfold M at hx
      obtain ⟨_, hx2⟩ := hx
      obtain ⟨b, z1, hi, rfl⟩ := hx2 (by rw [hl]; simp [isMp])
      obtain ⟨cs, c, hb, hent, hst, hsz⟩ := hR.maps.1 l es b z1 hl hi
      simp only [Option.map_eq_some_iff] at h
      obtain ⟨r, hr, rfl⟩ := h
      rcases findM_ok hkd hkv es cs.toList 0 r hent hr with ⟨rfl, h1, _⟩ | ⟨n, v, e, rfl, h1, _, _, h2⟩
      · refine ⟨_, ?_, M_lookR (b := false) (i := 0) (ok := ok) hzM hzM⟩
        simp [Instr.lookup, run_underlying ht, run_getObj_map hb, run_checkKey hd hik, run_findKey hd h1, hzr, Result.andThen]
      · refine ⟨_, ?_, M_lookR (b := true) (i := 0 + n) (ok := ok) hzM h2⟩
        simp [Instr.lookup, run_underlying ht, run_getObj_map hb, run_checkKey hd hik, run_findKey hd h1, hzr, Result.andThen]
    · cases h
  · cases h
theorem bel_set {es : List (AV × AV)} {n : Nat} {p : AV × AV} (h : ∀ q ∈ es, q.2.bel 0 = true) (hp : p.2.bel 0 = true) : ∀ q ∈ es.set n p, q.2.bel 0 = true := fun q hq => by
  rcases List.mem_or_eq_of_mem_set hq with h1 | rfl
  · exact h q h1
  · exact hp
theorem upd_ok (hR : Rel G X) {t kt et : TypeId} {x k v : AV} {p q u : Value} {H' : List AObj} (ht : P.underlying t = some (.map kt et)) (hko : keyOk (P.underlying kt) k = true) (hx : M X x p) (hk : M X k q) (hv : M X v u) (h : updA x k v X.H = some H') :
    ∃ X', (Instr.mapUpdate t p q u).run P X.w = .ok () X'.w ∧ X'.H = H' ∧ Rel G X' ∧ Ext X X' ∧ EscI X.H H' [] := by
  obtain ⟨d, hd, hkd⟩ := keyOk_some hko
  obtain ⟨kv, hkv, hik⟩ := keyOk_V hkd
  have hq := keyV_M hkv hk
  subst hq
  unfold updA at h
  split at h
  · rename_i l
    split at h
    · rename_i es hl
      split at h
      · rename_i hc
        unfold M at hx
        obtain ⟨_, hx2⟩ := hx
        obtain ⟨b, z1, hi, rfl⟩ := hx2 (by rw [hl]; simp [isMp])
        obtain ⟨cs, c, hb, hent, hst, hsz⟩ := hR.maps.1 l es b z1 hl hi
        have hbs := hR.maps.2 l es hl
        simp only [Option.map_eq_some_iff] at h
        obtain ⟨r, hr, rfl⟩ := h
        rcases findM_ok hkd hkv es cs.toList 0 r hent hr with ⟨rfl, h1, h3⟩ | ⟨n, v', e, rfl, h1, h4, h3, h2⟩
        · have hlen := EntM_length hent
          obtain ⟨w1, w2, w3⟩ := mapw_ok hR hl hi (es' := es ++ [(k, v)]) (cs' := cs.push { key := q, val := u, born := c }) (c' := c + 1) (by
            rw [Array.toList_push]; exact EntM_push hent hkv hv) (stamped_push hst h3) (by
            rw [Array.size_push]; have := hc.2; have h5 : cs.toList.length = cs.size := Array.length_toList; omega) (fun p hp => by
            rcases List.mem_append.1 hp with hp | hp
            · exact hbs p hp
            · simp at hp; subst hp; exact hc.1)
          exact ⟨_, by simp [Instr.mapUpdate, run_underlying ht, run_getObj_map hb, run_checkKey hd hik, run_findKey hd h1, run_setObj_map _ hb, Result.andThen], rfl, w1, w2, w3⟩
        · have hj : cs[n]? = some e := by simpa using h4
          have hjl : n < cs.size := (Array.getElem?_eq_some_iff.1 hj).1
          have hmod : (cs.modify n fun e => { e with key := q, val := u }).toList = cs.toList.set n { e with key := q, val := u } := by
            apply List.ext_getElem?
            intro j
            simp only [Array.getElem?_toList, Array.getElem?_modify, List.getElem?_set]
            by_cases hn : n = j
            · subst hn
              rw [hj]
              simp [hjl]
            · simp [hn]
          obtain ⟨w1, w2, w3⟩ := mapw_ok hR hl hi (es' := es.set n (k, v)) (cs' := cs.modify n fun e => { e with key := q, val := u }) (c' := c) (by
            rw [hmod]; exact EntM_set n hent hkv hv) (stamped_modify hst _ _ (fun _ _ => rfl) (fun e' _ he' => by rw [hj] at he'; cases he'; exact h3.symm)) (by
            rw [Array.size_modify]; exact hsz) (bel_set hbs hc.1)
          have e0 : (0 : Nat) + n = n := Nat.zero_add n
          refine ⟨_, ?_, ?_, w1, w2, ?_⟩
          · rw [e0] at h1
            simp [Instr.mapUpdate, run_underlying ht, run_getObj_map hb, run_checkKey hd hik, run_findKey hd h1, hj, h3, run_keyThatStays hik, run_setObj_map _ hb, Result.andThen]
          · simp [putM]
          · simpa [putM] using w3
      · cases h
    · cases h
  · cases h
theorem del_ok (hR : Rel G X) {t kt et ty : TypeId} {ts : Array TypeId} {x k : AV} {p q : Value} {H' : List AObj} (h0 : ts[0]? = some t) (ht : P.underlying t = some (.map kt et)) (hko : keyOk (P.underlying kt) k = true) (hx : M X x p) (hk : M X k q) (h : delA x k X.H = some H') :
    ∃ X', (Builtin.delete_ ts ty #[p, q]).run P X.w = .ok (.tuple #[]) X'.w ∧ X'.H = H' ∧ Rel G X' ∧ Ext X X' ∧ EscI X.H H' [] := by
  obtain ⟨d, hd, hkd⟩ := keyOk_some hko
  obtain ⟨kv, hkv, hik⟩ := keyOk_V hkd
  have hq := keyV_M hkv hk
  subst hq
  unfold delA at h
  split at h
  · rename_i l
    split at h
    · rename_i es hl
      unfold M at hx
      obtain ⟨_, hx2⟩ := hx
      obtain ⟨b, z1, hi, rfl⟩ := hx2 (by rw [hl]; simp [isMp])
      obtain ⟨cs, c, hb, hent, hst, hsz⟩ := hR.maps.1 l es b z1 hl hi
      have hbs := hR.maps.2 l es hl
      simp only [Option.map_eq_some_iff] at h
      obtain ⟨r, hr, rfl⟩ := h
      rcases findM_ok hkd hkv es cs.toList 0 r hent hr with ⟨rfl, h1, h3⟩ | ⟨n, v', e, rfl, h1, h4, h3, h2⟩
      · obtain ⟨w1, w2, w3⟩ := mapw_ok hR hl hi (es' := es) (cs' := cs) (c' := c) hent hst hsz hbs
        exact ⟨_, by simp [Builtin.delete_, h0, run_underlying ht, run_getObj_map hb, run_checkKey hd hik, run_findKey hd h1, run_setObj_map _ hb, Result.andThen], rfl, w1, w2, w3⟩
      · have hj : cs[n]? = some e := by simpa using h4
        have hjl : n < cs.size := (Array.getElem?_eq_some_iff.1 hj).1
        have hmod : (cs.eraseIdxIfInBounds n).toList = cs.toList.eraseIdx n := by
          unfold Array.eraseIdxIfInBounds
          rw [dif_pos hjl, Array.toList_eraseIdx]
        have hle : (cs.eraseIdxIfInBounds n).size ≤ cs.size := by
          rw [← Array.length_toList, hmod, ← Array.length_toList]
          exact List.length_eraseIdx_le _ _
        obtain ⟨w1, w2, w3⟩ := mapw_ok hR hl hi (es' := es.eraseIdx n) (cs' := cs.eraseIdxIfInBounds n) (c' := c) (by
          rw [hmod]; exact EntM_erase n hent) (stamped_erase hst n) (Nat.le_trans hle hsz) (fun p hp => hbs p (List.mem_of_mem_eraseIdx hp))
        have e0 : (0 : Nat) + n = n := Nat.zero_add n
        refine ⟨_, ?_, ?_, w1, w2, ?_⟩
        · rw [e0] at h1
          simp [Builtin.delete_, h0, run_underlying ht, run_getObj_map hb, run_checkKey hd hik, run_findKey hd h1, run_setObj_map _ hb, Result.andThen]
        · simp [cutM]
        · simpa [cutM] using w3
    · cases h
  · cases h
theorem len_map_ok (hR : Rel G X) {t kt et ty : TypeId} {ts : Array TypeId} {x : AV} {p : Value} {n : Nat} (h0 : ts[0]? = some t) (ht : P.underlying t = some (.map kt et)) (hx : M X x p) (h : lenM x X.H = some n) :
    (Builtin.len_ ts ty #[p]).run P X.w = .ok (.int .i64 n) X.w := by
  unfold lenM at h
  split at h
  · injection h with h; subst h
    unfold M at hx; subst hx
    simp [Builtin.len_, h0, run_underlying ht, Result.andThen]; rfl
  · rename_i l
    split at h
    · rename_i es hl
      unfold M at hx
      obtain ⟨_, hx2⟩ := hx
      obtain ⟨b, z1, hi, rfl⟩ := hx2 (by rw [hl]; simp [isMp])
      obtain ⟨cs, c, hb, hent, hst, hsz⟩ := hR.maps.1 l es b z1 hl hi
      injection h with h; subst h
      have hlen := EntM_length hent
      have h5 : cs.toList.length = cs.size := Array.length_toList
      have h6 : cs.size = es.length := by omega
      simp [Builtin.len_, h0, run_underlying ht, run_getObj_map hb, Result.andThen, h6]; rfl
    · cases h
  · cases h
end
end Go.Pm
