/- Soundness, part 4: operations. -/
import Derived.Test.YtclfnechcblmoaaDoorPm6
import Derived.Laws.Entries
namespace Go.Pm
set_option linter.unusedVariables false
set_option linter.unusedSimpArgs false

def OpOk (P : Program) (G : Nat → Option (List AV)) (X : Cx) (o : Oper) (a : Act) (r : R3) : Prop :=
  ∀ (K : Act → World → Prop) (Q : Exit → Act → World → Prop),
    (∀ u X', X'.H = r.2.1 → Rel G X' → Ext X X' → EscI X.H X'.H r.2.2 → M X' r.1 u → K (a.put o.dst u) X'.w) → o.wp P a X.w K Q

def SpecR (P : Program) (G : Nat → Option (List AV)) (f : FuncId) (args : List AV) (H : List AObj) (r : R3) : Prop :=
  ∀ (X : Cx) (cargs : Array Value), X.H = H → Rel G X → Ms X args cargs.toList →
    Calls P f cargs X.w fun e w' => ∃ u X', X'.w = w' ∧ e = .returned u ∧ X'.H = r.2.1 ∧ Rel G X' ∧ Ext X X' ∧ EscI X.H X'.H r.2.2 ∧ M X' r.1 u
def EnvOk (P : Program) (G : Nat → Option (List AV)) (env : Env) : Prop := ∀ f args H r, env f args H = some r → SpecR P G f args H r

section
variable {P : Program} {G : Nat → Option (List AV)} {X : Cx} {o : Oper} {a : Act}

theorem ok_same {v : AV} {u : Value} (hR : Rel G X) (hrun : (execOp a.eval o).run P X.w = .ok (.value u) X.w) (hm : M X v u) : OpOk P G X o a (v, X.H, []) := fun K Q h => by
  unfold Oper.wp
  rw [hrun]
  exact h u X rfl hR (Ext.refl X) (EscI.refl _) hm
theorem ok_to {v : AV} {u : Value} {X' : Cx} {H' : List AObj} {E : List Nat} (hrun : (execOp a.eval o).run P X.w = .ok (.value u) X'.w) (hH : X'.H = H') (hR : Rel G X') (hE : Ext X X') (hesc : EscI X.H H' E) (hm : M X' v u) :
    OpOk P G X o a (v, H', E) := fun K Q h => by
  unfold Oper.wp
  rw [hrun]
  exact h u X' hH hR hE (by rw [hH]; exact hesc) hm
theorem ok_skip {X' : Cx} {H' : List AObj} {E : List Nat} (hrun : (execOp a.eval o).run P X.w = .ok .skip X'.w) (hH : X'.H = H') (hR : Rel G X') (hE : Ext X X') (hesc : EscI X.H H' E) :
    OpOk P G X o a (.tup [], H', E) := fun K Q h => by
  unfold Oper.wp
  rw [hrun]
  exact h undef X' hH hR hE (by rw [hH]; exact hesc) (by unfold M; exact ⟨#[], rfl, by simp [Ms]⟩)

/-! ### kinds -/
theorem tk_some {t : TypeId} {ag : Bool} {s : Nat} (h : tk P t = some (ag, s)) : ∃ d i, P.underlying t = some d ∧ P.info? t = some i ∧ i.size = s ∧ (match d with | .struct _ | .array _ _ => true | _ => false) = ag ∧
    (∀ w, (isAgg t).run P w = .ok ag w) ∧ (∀ w, (sizeOf t).run P w = .ok s w) := by
  unfold tk at h
  split at h
  · rename_i d i hd hi
    injection h with h
    injection h with h1 h2
    refine ⟨d, i, hd, hi, h2, h1, fun w => ?_, fun w => ?_⟩
    · cases d <;> simp_all [isAgg, run_underlying hd]
    · simp [sizeOf, run_typeInfo _ hi, h2]
  · cases h
theorem elemT_some {t e : TypeId} (h : elemT P t = some e) : P.underlying t = some (.slice e) := by
  unfold elemT at h
  split at h
  · injection h with h; subst h; assumption
  · cases h
theorem zeroT_some {t : TypeId} {z : AV} (h : zeroT P t = some z) : ∃ i v, P.info? t = some i ∧ i.zero = some v ∧ z = ofVal v ∧ ∀ w, (zeroValue t).run P w = .ok v w := by
  unfold zeroT at h
  simp only [Option.bind_eq_some_iff, Option.map_eq_some_iff] at h
  obtain ⟨i, hi, v, hv, rfl⟩ := h
  exact ⟨i, v, hi, hv, rfl, fun w => by simp [zeroValue, run_typeInfo _ hi, hv]⟩

/-! ### cells -/
theorem one_of {v : AV} {u : Value} (h1 : v.one = true) (hm : M X v u) : u.oneCell' = true ∧ u.cells = #[u] := by
  cases v with
  | bad | agg _ | tup _ => simp [AV.one] at h1
  | ptr l tot i off => unfold M at hm; obtain ⟨⟨_, q, rfl⟩, _⟩ := hm; exact ⟨rfl, rfl⟩
  | slc l off n tot => unfold M at hm; obtain ⟨⟨_, A, m, c, rfl⟩, _⟩ := hm; exact ⟨rfl, rfl⟩
  | ip cs => unfold M at hm; obtain ⟨b, o, rfl, _⟩ := hm; exact ⟨rfl, rfl⟩
  | lst cs => unfold M at hm; obtain ⟨A, c, rfl, _⟩ := hm; exact ⟨rfl, rfl⟩
  | emp b => unfold M at hm; obtain ⟨A, c, rfl, _⟩ := hm; exact ⟨rfl, rfl⟩
  | clo f a b => unfold M at hm; obtain ⟨fv, cv, rfl, _⟩ := hm; exact ⟨rfl, rfl⟩
  | ifc t v => unfold M at hm; obtain ⟨u', rfl, _⟩ := hm; exact ⟨rfl, rfl⟩
  | _ => unfold M at hm; subst hm; exact ⟨rfl, rfl⟩
theorem one_all {vs : List AV} {us : List Value} (h1 : vs.all AV.one = true) (hm : Ms X vs us) : ∀ u ∈ us, u.oneCell' = true := fun u hu => by
  obtain ⟨i, hi, rfl⟩ := List.getElem_of_mem hu
  have hl := Ms_length hm
  obtain ⟨u', h2, h3⟩ := Ms_get hm (List.getElem?_eq_getElem (show i < vs.length by omega))
  rw [List.getElem?_eq_getElem hi] at h2
  injection h2 with h2
  rw [h2]
  exact (one_of (List.all_eq_true.1 h1 _ (List.getElem_mem _)) h3).1
/-- What is stored in cells is stored cell by cell. -/
theorem cells_of {v : AV} {u : Value} (h1 : v.cells.all AV.one = true) (hm : M X v u) : Ms X v.cells u.cells.toList := by
  cases v with
  | agg cs => unfold M at hm; obtain ⟨vs, rfl, hs⟩ := hm; exact hs
  | _ =>
    simp only [AV.cells, List.all_cons, List.all_nil, Bool.and_true] at h1 ⊢
    rw [(one_of h1 hm).2]
    unfold Ms
    exact ⟨u, [], rfl, hm, by simp [Ms]⟩

theorem heap_push (w : World) (ob : Obj) : (newObj ob).run P w = .ok w.heap.size { w with heap := w.heap.push ob } := rfl

/-- A new variable. -/
theorem new_ok {v : AV} {u : Value} {t : TypeId} {r : R3} (hR : Rel G X) (hn : newA v X.H = some r) (hm : M X v u) :
    ∃ X', (newVar t u).run P X.w = .ok ⟨X.w.heap.size, 0, none⟩ X'.w ∧ X'.H = r.2.1 ∧ Rel G X' ∧ Ext X X' ∧ EscI X.H r.2.1 r.2.2 ∧ M X' r.1 (.pointer (some ⟨X.w.heap.size, 0, none⟩)) := by
  unfold newA at hn
  split at hn
  · rename_i hc
    obtain ⟨hc0, hc1⟩ := hc
    injection hn with hn
    subst hn
    have hs := cells_of hc1 hm
    have hl : v.cells.length = u.cells.size := by simpa using Ms_length hs
    have hz : 0 < v.cells.length := List.length_pos_iff.2 hc0
    have hesc : EscI X.H (X.H ++ [.row v.cells.length [v]]) [] := fun l z es h => by
      rcases Nat.lt_or_ge l X.H.length with hlt | hge
      · rw [List.getElem?_append_left hlt] at h
        exact .inr fun m hm hp => hp z es h
      · rw [List.getElem?_append_right hge] at h
        have hl0 : l = X.H.length := by
          have := (List.getElem?_eq_some_iff.1 h).1
          simp at this; omega
        subst hl0
        simp at h
        obtain ⟨_, rfl⟩ := h
        exact .inr fun m hm' hp => by
          simp only [belL, Bool.and_true]
          exact bel_mono (Nat.le_of_lt hm') v (M_bel v u hm)
    obtain ⟨h1, h2⟩ := push_ok (c := u.cells) (el := t) (fr := (0, 0)) hR (w' := { X.w with heap := X.w.heap.push (.cells u.cells t) }) rfl rfl rfl rfl (z := v.cells.length) (es := [v]) hz
      (fun i e he => by
        cases i with
        | succ i => simp at he
        | zero =>
          simp at he
          subst he
          exact ⟨rfl, u.cells.toList, hs, fun j v' hj => by simpa using hj⟩)
      (by intro e he; simp at he; subst he; exact hc1) (by simp; omega) (.inl rfl) (H' := X.H ++ [.row v.cells.length [v]]) (l := X.H.length) (by simp) (fun k hk => by
        rcases Nat.lt_or_ge k X.H.length with hlt | hge
        · rw [List.getElem?_append_left hlt]
        · rw [List.getElem?_eq_none (by simp; omega), List.getElem?_eq_none hge]) (by simp) (fun h => absurd h (Nat.lt_irrefl _)) (E := []) hesc
    refine ⟨_, by simp [newVar, newRow], rfl, h1, h2, hesc, ?_⟩
    unfold M
    refine ⟨⟨by simp, _, rfl⟩, fun t ht => ?_, fun _ => ⟨X.w.heap.size, v.cells.length, by simp [isRow], by simp [upd], by simp⟩⟩
    simp [lenOf] at ht; omega
  · cases hn
end
end Go.Pm
