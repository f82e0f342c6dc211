/- Soundness, part 9: built values, new slices, conversions. -/
import Derived.Test.YtclfnechcblmoaaDoorPm11
namespace Go.Pm
set_option linter.unusedVariables false
set_option linter.unusedSimpArgs false
section
variable {P : Program} {G : Nat → Option (List AV)} {X : Cx} {o : Oper} {a : Act} {T : List AV}

theorem put_cells_k : ∀ (vs : List Value) (k off : Nat) (cells : Array Value), off + k + vs.length ≤ cells.size →
    ((vs.zipIdx k).foldl (fun cs (p : Value × Nat) => cs.setIfInBounds (off + p.2) p.1) cells).toList = cells.toList.take (off + k) ++ vs ++ cells.toList.drop (off + k + vs.length)
  | [], k, off, cells, h => by simp
  | v :: vs, k, off, cells, h => by
    simp only [List.length_cons] at h
    simp only [List.zipIdx_cons, List.foldl_cons]
    have hsz : cells.toList.length = cells.size := Array.length_toList
    have hk : off + k < cells.toList.length := by omega
    rw [put_cells_k vs (k + 1) off _ (by simp; omega)]
    rw [Array.toList_setIfInBounds, show off + (k + 1) = off + k + 1 by omega, List.take_succ_eq_append_getElem (by simpa using hk)]
    rw [List.drop_set_of_lt (by omega), show off + k + 1 + vs.length = off + k + (v :: vs).length by simp; omega]
    simp [List.take_set_of_le]
theorem put_cells (vs : Array Value) (off : Nat) (cells : Array Value) (h : off + vs.size ≤ cells.size) :
    (vs.zipIdx.foldl (fun cs (p : Value × Nat) => cs.setIfInBounds (off + p.2) p.1) cells).toList = cells.toList.take off ++ vs.toList ++ cells.toList.drop (off + vs.size) := by
  have := put_cells_k vs.toList 0 off cells (by simpa using h)
  rw [← Array.foldl_toList]
  simpa using this

/-- Parts with their values. -/
def Parts (X : Cx) : List (Nat × AV) → List (Nat × Value) → Prop
  | [], qs => qs = []
  | (i, v) :: ps, qs => ∃ u us, qs = (i, u) :: us ∧ M X v u ∧ Parts X ps us
theorem cells_of' {v : AV} {u : Value} (h1 : v.isBad = false) (hm : M X v u) : Ms X v.cells u.cells.toList := by
  cases v with
  | agg cs => unfold M at hm; obtain ⟨vs, rfl, hs⟩ := hm; exact hs
  | bad => simp [AV.isBad] at h1
  | tup vs => simp [AV.isBad] at h1
  | _ =>
    simp only [AV.cells]
    rw [(one_of rfl hm).2]
    unfold Ms
    exact ⟨u, [], rfl, hm, by simp [Ms]⟩
theorem fill_ok {place : Nat → Option (Nat × Nat)} : ∀ {ps : List (Nat × AV)} {qs : List (Nat × Value)} {cs cs' : List AV} {cells : Array Value}, Parts X ps qs → Ms X cs cells.toList → fillA place cs ps = some cs' →
    ∃ cells', Instr.fill place cells qs = some cells' ∧ Ms X cs' cells'.toList
  | [], qs, cs, cs', cells, hp, hc, h => by
    unfold Parts at hp
    subst hp
    simp only [fillA, Option.some.injEq] at h
    subst h
    exact ⟨cells, rfl, hc⟩
  | (i, v) :: ps, qs, cs, cs', cells, hp, hc, h => by
    unfold Parts at hp
    obtain ⟨u, us, rfl, hm, hp⟩ := hp
    simp only [fillA] at h
    cases hpl : place i with
    | none => rw [hpl] at h; cases h
    | some x =>
      obtain ⟨off, size⟩ := x
      rw [hpl] at h
      simp only at h
      split at h
      · rename_i hcond
        obtain ⟨c1, c2, c3⟩ := hcond
        have hms := cells_of' (X := X) c3 hm
        have hul : u.cells.size = size := by rw [← Array.length_toList, ← Ms_length hms, c1]
        have hcl := Ms_length hc
        have hsz : cells.toList.length = cells.size := Array.length_toList
        have hput := put_cells u.cells off cells (by omega)
        obtain ⟨cells', k1, k2⟩ := fill_ok (cells := u.cells.zipIdx.foldl (fun cs (p : Value × Nat) => cs.setIfInBounds (off + p.2) p.1) cells) hp (by
          rw [hput, hul]
          exact Ms_append (Ms_append (Ms_take hc off) hms) (Ms_drop hc _)) h
        refine ⟨cells', ?_, k2⟩
        simp only [Instr.fill, hpl]
        rw [if_neg (by simp only [Bool.or_eq_true, decide_eq_true_eq, ne_eq]; omega)]
        exact k1
      · cases h

theorem Parts_of {l : List (Nat × Operand)} {f : Operand → AV} {g : Operand → Value} (h : ∀ x, M X (f x) (g x)) : Parts X (l.map fun p => (p.1, f p.2)) (l.map fun p => (p.1, g p.2)) := by
  induction l with
  | nil => simp [Parts]
  | cons p l ih => simp only [List.map]; unfold Parts; exact ⟨_, _, rfl, h _, ih⟩
theorem ofVal_cells {v : Value} (h : (ofVal v).isBad = false) : Ms X (ofVal v).cells v.cells.toList := cells_of' h (M_ofVal X v)

theorem run_mapM {α β : Type} (f : α → Sem β) (g : α → β) (w : World) : ∀ (l : List α), (∀ x ∈ l, (f x).run P w = .ok (g x) w) → (l.mapM f).run P w = .ok (l.map g) w
  | [], _ => by simp
  | x :: l, h => by
    rw [List.mapM_cons]
    simp [h x (by simp), run_mapM f g w l fun y hy => h y (by simp [hy])]
theorem build_struct_ok {t : TypeId} {fs : Array Field} {zv : AV} {parts : Array (Nat × Value)} {ps : List (Nat × AV)} {cs : List AV} (ht : P.underlying t = some (.struct fs)) (hz : zeroT P t = some zv) (hzb : zv.isBad = false) (hp : Parts X ps parts.toList)
    (hall : (fs.toList.all fun f => (tk P f.type).isSome) = true) (h : fillA (fun i => (fs[i]?).bind fun f => (tk P f.type).map fun s => (f.offset, s.2)) zv.cells ps = some cs) : ∃ u, (Instr.build t parts).run P X.w = .ok u X.w ∧ M X (.agg cs) u := by
  obtain ⟨inf, zval, hi, hzz, rfl, hzrun⟩ := zeroT_some hz
  have hsz : ∀ f ∈ fs.toList, (do pure (f.offset, ← sizeOf f.type) : Sem (Nat × Nat)).run P X.w = .ok (f.offset, ((tk P f.type).getD (false, 0)).2) X.w := fun f hf => by
    have h1 := List.all_eq_true.1 hall f hf
    obtain ⟨s, hs⟩ := Option.isSome_iff_exists.1 h1
    obtain ⟨d, i, _, _, _, _, _, hsz⟩ := tk_some (ag := s.1) (s := s.2) hs
    simp [hsz, hs]
  have hm := run_mapM (P := P) _ _ X.w fs.toList hsz
  have hplace : (fun (i : Nat) => (fs[i]?).bind fun (f : Field) => (tk P f.type).map fun s => (f.offset, s.2)) = fun i => ((fs.toList.map fun (f : Field) => (f.offset, ((tk P f.type).getD (false, 0)).2)).toArray)[i]? := by
    funext i
    rw [show ∀ (l : List (Nat × Nat)), l.toArray[i]? = l[i]? from fun l => by simp, List.getElem?_map, Array.getElem?_toList]
    cases hf : fs[i]? with
    | none => rfl
    | some f =>
      have h1 := List.all_eq_true.1 hall f (by
        obtain ⟨hlt, hx⟩ := Array.getElem?_eq_some_iff.1 hf
        rw [← hx]; exact Array.getElem_mem_toList hlt)
      obtain ⟨s, hs⟩ := Option.isSome_iff_exists.1 h1
      simp [hs]
  rw [hplace] at h
  obtain ⟨cells', k1, k2⟩ := fill_ok hp (ofVal_cells (X := X) hzb) h
  refine ⟨.agg cells', ?_, by unfold M; exact ⟨_, rfl, k2⟩⟩
  unfold Instr.build
  simp only [Sem.run_bind, hzrun, Result.andThen_ok, run_underlying ht]
  rw [Array.mapM_eq_mapM_toList]
  simp only [Sem.run_map, hm, Result.andThen_ok]
  rw [k1]
  rfl
theorem build_array_ok {t e : TypeId} {n : Nat} {ag : Bool} {z : Nat} {zv : AV} {parts : Array (Nat × Value)} {ps : List (Nat × AV)} {cs : List AV} (ht : P.underlying t = some (.array n e)) (he : tk P e = some (ag, z)) (hz : zeroT P t = some zv) (hzb : zv.isBad = false) (hp : Parts X ps parts.toList)
    (h : fillA (fun i => some (i * z, z)) zv.cells ps = some cs) : ∃ u, (Instr.build t parts).run P X.w = .ok u X.w ∧ M X (.agg cs) u := by
  obtain ⟨inf, zval, hi, hzz, rfl, hzrun⟩ := zeroT_some hz
  obtain ⟨d, i, _, _, _, _, _, hsz⟩ := tk_some he
  obtain ⟨cells', k1, k2⟩ := fill_ok hp (ofVal_cells (X := X) hzb) h
  refine ⟨.agg cells', ?_, by unfold M; exact ⟨_, rfl, k2⟩⟩
  unfold Instr.build
  simp only [Sem.run_bind, hzrun, Result.andThen_ok, run_underlying ht, hsz]
  rw [k1]
  rfl

/-! ### literal slices -/
theorem mod_cell {z i j : Nat} (hz : 0 < z) (hj : j < z) : (i * z + j) % z = j := by
  rw [Nat.mul_comm, Nat.mul_add_mod, Nat.mod_eq_of_lt hj]
theorem zero_told {zv : AV} {zval : Value} {z : Nat} (n : Nat) (hm : Ms X zv.cells zval.cells.toList) (hl : zv.cells.length = z) (hz : 0 < z) :
    Told X z (List.replicate n zv) ((Array.range (n * z)).map (zval.cells[· % zval.cells.size]!)).toList := by
  have hs : zval.cells.size = z := by rw [← Array.length_toList, ← Ms_length hm, hl]
  refine ⟨by simp, fun i e he => ?_⟩
  have hi : i < n := by have := (List.getElem?_eq_some_iff.1 he).1; simpa using this
  rw [List.getElem?_replicate, if_pos hi] at he
  injection he with he; subst he
  refine ⟨_, hm, fun j v hj => ?_⟩
  have hjz : j < z := by
    have := (List.getElem?_eq_some_iff.1 hj).1
    simp at this; omega
  have hlt : i * z + j < n * z := by
    have := Nat.mul_le_mul_right z (Nat.succ_le_of_lt hi)
    rw [Nat.succ_mul] at this; omega
  rw [Array.getElem?_toList] at hj ⊢
  rw [Array.getElem?_map, Array.getElem?_range]
  simp only [hlt, if_true, Option.map_some, hs, mod_cell hz hjz]
  rw [← hj]
  rw [Array.getElem?_eq_getElem (by omega)]
  simp [getElem!_def, Array.getElem?_eq_getElem (show j < zval.cells.size by omega)]
theorem set_told {z : Nat} {es : List AV} {cs : List Value} {v : AV} {us : List Value} {i : Nat} (h : Told X z es cs) (hi : i < es.length) (hv : Ms X v.cells us) (hl : v.cells.length = z) (hcl : ∀ e ∈ es, e.cells.length = z) :
    Told X z (es.set i v) (cs.take (i * z) ++ us ++ cs.drop (i * z + z)) := by
  have hul : us.length = z := by rw [← Ms_length hv, hl]
  have hin : i * z + z ≤ es.length * z := by
    have := Nat.mul_le_mul_right z (Nat.succ_le_of_lt hi)
    rw [Nat.succ_mul] at this; exact this
  have hcs := h.1
  refine ⟨by simp only [List.length_append, List.length_take, List.length_drop, List.length_set, hul]; omega, fun k e he => ?_⟩
  by_cases ek : k = i
  · subst ek
    rw [List.getElem?_set_self hi] at he
    injection he with he; subst he
    refine ⟨us, hv, fun j u hj => ?_⟩
    have hjz : j < us.length := (List.getElem?_eq_some_iff.1 hj).1
    have e1 : (cs.take (k * z)).length = k * z := by simp only [List.length_take]; omega
    rw [List.append_assoc, List.getElem?_append_right (by omega), e1, Nat.add_sub_cancel_left, List.getElem?_append_left hjz]
    exact hj
  · rw [List.getElem?_set_ne (Ne.symm ek)] at he
    obtain ⟨vs, m1, m2⟩ := h.2 k e he
    refine ⟨vs, m1, fun j u hj => ?_⟩
    have hjz : j < z := by
      have := (List.getElem?_eq_some_iff.1 hj).1
      rw [← Ms_length m1, hcl e (List.mem_of_getElem? he)] at this; exact this
    have h4 := m2 j u hj
    have e1 : (cs.take (i * z)).length = i * z := by simp only [List.length_take]; omega
    rcases Nat.lt_or_gt_of_ne ek with hlt | hgt
    · have := Nat.mul_le_mul_right z (Nat.succ_le_of_lt hlt)
      rw [Nat.succ_mul] at this
      rw [List.append_assoc, List.getElem?_append_left (by omega), List.getElem?_take_of_lt (by omega)]
      exact h4
    · have := Nat.mul_le_mul_right z (Nat.succ_le_of_lt hgt)
      rw [Nat.succ_mul] at this
      have e2 : (cs.take (i * z) ++ us).length = i * z + z := by simp only [List.length_append, List.length_take, hul]; omega
      rw [List.getElem?_append_right (by omega), List.getElem?_drop]
      rw [e2, show i * z + z + (k * z + j - (i * z + z)) = k * z + j by omega]
      exact h4
theorem fillS_ok {z : Nat} {H : List AObj} : ∀ {ps : List (Nat × AV)} {qs : List (Nat × Value)} {es es' : List AV} {cells : Array Value}, Parts X ps qs → Told X z es cells.toList → (∀ e ∈ es, e.cells.length = z) → oneL es → setS z H es ps = some es' →
    ∃ cells', Instr.fill (fun i => some (i * z, z)) cells qs = some cells' ∧ Told X z es' cells'.toList ∧ (∀ e ∈ es', e.cells.length = z) ∧ oneL es' ∧ es'.length = es.length
  | [], qs, es, es', cells, hp, hc, hl, h1, h => by
    unfold Parts at hp
    subst hp
    simp only [setS, Option.some.injEq] at h
    subst h
    exact ⟨cells, rfl, hc, hl, h1, rfl⟩
  | (i, v) :: ps, qs, es, es', cells, hp, hc, hl, h1, h => by
    unfold Parts at hp
    obtain ⟨u, us, rfl, hm, hp⟩ := hp
    simp only [setS] at h
    split at h
    · rename_i hcond
      obtain ⟨c1, c2, c3⟩ := hcond
      have hms := cells_of c3 hm
      have hul : u.cells.size = z := by rw [← Array.length_toList, ← Ms_length hms, c1]
      have hsz : cells.toList.length = cells.size := Array.length_toList
      have hin : i * z + z ≤ es.length * z := by
        have := Nat.mul_le_mul_right z (Nat.succ_le_of_lt c2)
        rw [Nat.succ_mul] at this; exact this
      have hcs := hc.1
      have hput := put_cells u.cells (i * z) cells (by omega)
      obtain ⟨cells', k1, k2, k3, k4, k5⟩ := fillS_ok (H := H) (cells := u.cells.zipIdx.foldl (fun cs (p : Value × Nat) => cs.setIfInBounds (i * z + p.2) p.1) cells) hp (by
        rw [hput, hul]
        exact set_told hc c2 hms c1 hl) (fun e he => by
          rcases List.mem_or_eq_of_mem_set he with h2 | h2
          · exact hl e h2
          · rw [h2]; exact c1) (oneL_set h1 c3) h
      refine ⟨cells', ?_, k2, k3, k4, by simpa using k5⟩
      simp only [Instr.fill]
      rw [if_neg (by simp only [Bool.or_eq_true, decide_eq_true_eq, ne_eq]; omega)]
      exact k1
    · cases h
/-- A new block with elements of one's own. -/
theorem newrow_ok {z : Nat} {es : List AV} {c : Array Value} {el : TypeId} {m : Nat} (hR : Rel G X) (hz : 0 < z) (hc : Told X z es (c.toList.take (es.length * z))) (hcl : ∀ e ∈ es, e.cells.length = z) (hone : oneL es) (hm : es.length ≤ m) (hs : c.size = m * z) :
    ∃ X' : Cx, X'.w = { X.w with heap := X.w.heap.push (.cells c el) } ∧ X'.H = X.H ++ [.row z es] ∧ Rel G X' ∧ Ext X X' ∧ EscI X.H (X.H ++ [.row z es]) [] ∧
      M X' (.slc X.H.length 0 es.length es.length) (.slice (some ⟨X.w.heap.size, 0, none⟩) es.length m) := by
  have hbel : belL X.H.length es = true := by
    rw [belL_flat]
    intro e he
    obtain ⟨i, hi, rfl⟩ := List.getElem_of_mem he
    obtain ⟨vs, m1, _⟩ := hc.2 i _ (List.getElem?_eq_getElem hi)
    exact Ms_bel _ _ m1
  have hle : es.length * z ≤ c.size := by rw [hs]; exact Nat.mul_le_mul_right z hm
  obtain ⟨w1, w2⟩ := push_ok (w' := { X.w with heap := X.w.heap.push (.cells c el) }) (c := c) (el := el) (fr := (0, 0)) hR rfl rfl rfl rfl (z := z) (es := es) hz
    (fun i e he => by
      obtain ⟨vs, m1, m2⟩ := hc.2 i e he
      refine ⟨hcl e (List.mem_of_getElem? he), vs, m1, fun j v hj => ?_⟩
      have h4 := m2 j v hj
      have hlt := (List.getElem?_eq_some_iff.1 h4).1
      rw [List.getElem?_take_of_lt (by simp at hlt; omega), Array.getElem?_toList] at h4
      exact h4) hone hle (.inl rfl) (H' := X.H ++ [.row z es]) (l := X.H.length) (by simp) (fun k hk => by
        rcases Nat.lt_or_ge k X.H.length with hlt | hge
        · rw [List.getElem?_append_left hlt]
        · rw [List.getElem?_eq_none (by simp; omega), List.getElem?_eq_none hge]) (by simp) (fun h => absurd h (Nat.lt_irrefl _)) (escI_new hbel)
  refine ⟨_, rfl, rfl, w1, w2, escI_new hbel, ?_⟩
  unfold M
  refine ⟨⟨by simp, _, _, _, rfl⟩, fun t ht => ?_, fun _ => .inr ⟨by simp [isRow], _, m, X.w.heap.size, z, c.size, by simp [upd], rfl, by simp, hm, by simp [sizeAt], .inr ⟨by simp, by simp [hs]⟩⟩⟩
  simp [lenOf] at ht; omega
end
end Go.Pm
