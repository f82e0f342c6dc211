/- Soundness, part 8: stores, appends, new slices. -/
import Derived.Test.YtclfnechcblmoaaDoorPm10
namespace Go.Pm
set_option linter.unusedVariables false
set_option linter.unusedSimpArgs false
section
variable {P : Program} {G : Nat → Option (List AV)} {X : Cx} {o : Oper} {a : Act} {T : List AV}

theorem belL_append {m : Nat} : ∀ {cs ds : List AV}, belL m (cs ++ ds) = (belL m cs && belL m ds)
  | [], ds => by simp [belL]
  | c :: cs, ds => by simp [belL, belL_append, Bool.and_assoc]
theorem belL_iff {m : Nat} : ∀ {cs : List AV}, belL m cs = true ↔ ∀ c ∈ cs, c.bel m = true
  | [] => by simp [belL]
  | c :: cs => by simp [belL, belL_iff]
theorem bel_cells {m : Nat} (e : AV) : belL m e.cells = e.bel m := by
  cases e <;> simp [AV.cells, belL, AV.bel]
theorem belL_flat {m : Nat} {es : List AV} : belL m es = true ↔ ∀ e ∈ es, belL m e.cells = true := by
  simp only [belL_iff (cs := es), bel_cells]

theorem setC_ok {e e' : AV} {off : Nat} {vs : List AV} (h1 : vs.all AV.one = true) (h : setC e off vs = some e') :
    e'.cells = e.cells.take off ++ vs ++ e.cells.drop (off + vs.length) ∧ off + vs.length ≤ e.cells.length := by
  have key : ∀ (x : AV), set1 off vs = some e' → x.cells = [x] →
      e'.cells = x.cells.take off ++ vs ++ x.cells.drop (off + vs.length) ∧ off + vs.length ≤ x.cells.length := fun x hx hc => by
    unfold set1 at hx
    split at hx
    · rename_i v1
      injection hx with hx
      have h2 : v1.one = true := by simpa using h1
      have hv : v1.cells = [v1] := by cases v1 <;> first | rfl | simp [AV.one] at h2
      rw [← hx]
      simp [hc, hv]
    · cases hx
  cases e with
  | agg cs =>
    simp only [setC] at h
    split at h
    · injection h with h; subst h
      exact ⟨rfl, ‹_›⟩
    · cases h
  | _ => exact key _ h rfl

theorem escI_set {H : List AObj} {l z : Nat} {es es' : List AV} {vs : List AV} (hl : H[l]? = some (.row z es))
    (h : ∀ m, belL m es = true → belL m vs = true → belL m es' = true) : EscI H (H.set l (.row z es')) (escs l vs) := fun k z1 es1 hk => by
  by_cases e : k = l
  · subst e
    unfold escs
    split
    · rename_i hb
      right
      intro m hm hp
      have hll : k < H.length := (List.getElem?_eq_some_iff.1 hl).1
      simp [hll] at hk
      obtain ⟨_, rfl⟩ := hk
      exact h m (hp z es hl) (belL_mono hm _ hb)
    · left; simp
  · rw [List.getElem?_set_ne (Ne.symm e)] at hk
    exact .inr fun m hm hp => hp z1 es1 hk

theorem oneL_set {es : List AV} {i : Nat} {e' : AV} (h : oneL es) (h' : e'.cells.all AV.one = true) : oneL (es.set i e') := fun e he => by
  rcases List.mem_or_eq_of_mem_set he with h1 | h1
  · exact h e h1
  · rw [h1]; exact h'

theorem store_ok (hR : Rel G X) {t : TypeId} {ag : Bool} {s : Nat} {p v : AV} {q u : Value} {r : List AObj × List Nat} (ht : tk P t = some (ag, s)) (hp : M X p q) (hv : M X v u) (h : storeA s p v X.H = some r) :
    ∃ X', (Instr.storeAt t q u).run P X.w = .ok () X'.w ∧ X'.H = r.1 ∧ Rel G X' ∧ Ext X X' ∧ EscI X.H r.1 r.2 := by
  obtain ⟨d, inf, _, _, _, _, _, hsz⟩ := tk_some ht
  unfold storeA at h
  split at h
  · rename_i l tot i off
    split at h
    · rename_i z es hl
      split at h
      · rename_i hc
        obtain ⟨hlen, hs, hone⟩ := hc
        simp only [Option.bind_eq_some_iff, Option.map_eq_some_iff] at h
        obtain ⟨e, he, e', hset, rfl⟩ := h
        obtain ⟨b, rfl, hi, hcells, hcl⟩ := row_elem hR hp hl hlen he
        obtain ⟨g1, g2⟩ := setC_ok hone hset
        obtain ⟨_, hz0, hme, hones, sz, hsz2, hle, hfr⟩ := hR.rows l z es b z hl hi
        have hms := cells_of hone hv
        have hul : u.cells.toList.length = s := by rw [← Ms_length hms, hs]
        have hlt : i < es.length := (List.getElem?_eq_some_iff.1 he).1
        have hin : i * z + z ≤ es.length * z := by
          have := Nat.mul_le_mul_right z (Nat.succ_le_of_lt hlt)
          rw [Nat.succ_mul] at this; exact this
        have hoff : off + s ≤ z := by omega
        have hrun : (Instr.storeAt t (.pointer (some ⟨b, i * z + off, none⟩)) u).run P X.w = .ok () (X.w.setCells b (i * z + off) u.cells.toList) := by
          have h1 := run_storeCells_cells (P := P) b (i * z + off) u.cells.toList 0 X.w
            (fun j hj => by rw [cell?_plain]; exact isSome_cellAt hsz2 (by omega)) (fun j hj => unmark_frozen hfr hsz2 _ (by omega)) (one_all hone hms)
          have h2 : u.cells.size = s := by rw [← Array.length_toList]; exact hul
          simpa [Instr.storeAt, Instr.sureAddr, storeVar, hsz, h2] using h1
        have hesc := escI_set (es' := es.set i e') (vs := v.cells) hl (fun m h1 h2 => by
          rw [belL_flat] at h1 ⊢
          intro x hx
          rcases List.mem_or_eq_of_mem_set hx with h3 | h3
          · exact h1 x h3
          · rw [h3, g1, belL_append, belL_append, Bool.and_eq_true, Bool.and_eq_true]
            have h4 := h1 e (List.mem_of_getElem? he)
            rw [belL_iff] at h4
            exact ⟨⟨belL_iff.2 fun c hc => h4 c (List.mem_of_mem_take hc), h2⟩, belL_iff.2 fun c hc => h4 c (List.mem_of_mem_drop hc)⟩)
        obtain ⟨w1, w2⟩ := write_ok hR hl hi (es' := es.set i e') (by simp) (o := i * z + off) (vs := u.cells.toList) hsz2 (by omega) (oneL_set hones (by
            rw [g1, List.all_append, List.all_append, Bool.and_eq_true, Bool.and_eq_true]
            have h4 := hones e (List.mem_of_getElem? he)
            rw [List.all_eq_true] at h4
            exact ⟨⟨List.all_eq_true.2 fun c hc => h4 c (List.mem_of_mem_take hc), hone⟩, List.all_eq_true.2 fun c hc => h4 c (List.mem_of_mem_drop hc)⟩)) (by simpa using hle) (fun k x hx => by
          by_cases ek : k = i
          · subst ek
            rw [List.getElem?_set_self hlt] at hx
            injection hx with hx; subst hx
            obtain ⟨vs, m1, m2, m3⟩ := Mc_vals hcells
            have hvl : vs.length = z := by rw [m1, hcl]
            refine ⟨by rw [g1]; simp; omega, vs.take off ++ u.cells.toList ++ vs.drop (off + s), ?_, fun j y hj => ?_⟩
            · rw [g1, hs]; exact Ms_append (Ms_append (Ms_take m2 off) hms) (Ms_drop m2 _)
            · have hj' : j < z := by
                have := (List.getElem?_eq_some_iff.1 hj).1
                simp at this; simp at hul; omega
              by_cases c1 : j < off
              · rw [List.append_assoc, List.getElem?_append_left (by simp; omega), List.getElem?_take_of_lt c1] at hj
                rw [cellAt_setCells_out (fun _ => .inl (by omega))]
                exact m3 j y hj
              · by_cases c2 : j < off + s
                · rw [List.append_assoc, List.getElem?_append_right (by simp; omega), List.getElem?_append_left (by simp at hul ⊢; omega)] at hj
                  have e1 : (vs.take off).length = off := by simp; omega
                  rw [e1] at hj
                  rw [show k * z + j = k * z + off + (j - off) by omega, cellAt_setCells_in hsz2 (by omega) (by omega)]
                  exact hj
                · rw [List.getElem?_append_right (by simp at hul ⊢; omega), List.getElem?_drop] at hj
                  rw [cellAt_setCells_out (fun _ => .inr (by omega))]
                  have e1 : (vs.take off ++ u.cells.toList).length = off + s := by simp at hul ⊢; omega
                  rw [e1, show off + s + (j - (off + s)) = j by omega] at hj
                  exact m3 j y hj
          · rw [List.getElem?_set_ne (Ne.symm ek)] at hx
            obtain ⟨q1, q2⟩ := Me_get hme hx
            obtain ⟨vs, m1, m2, m3⟩ := Mc_vals q2
            refine ⟨q1, vs, m2, fun j y hj => ?_⟩
            have hj' : j < z := by
              have := (List.getElem?_eq_some_iff.1 hj).1
              omega
            rw [cellAt_setCells_out (fun _ => ?_)]
            · have := m3 j y hj
              rwa [Nat.zero_add] at this
            · rcases Nat.lt_or_gt_of_ne ek with hlt' | hgt
              · left
                have := Nat.mul_le_mul_right z (Nat.succ_le_of_lt hlt')
                rw [Nat.succ_mul] at this; omega
              · right
                have := Nat.mul_le_mul_right z (Nat.succ_le_of_lt hgt)
                rw [Nat.succ_mul] at this; omega) hesc
        exact ⟨_, hrun, rfl, w1, w2, hesc⟩
      · cases h
    · cases h
  · cases h

/-! ### append -/
def Told (X : Cx) (z : Nat) (es : List AV) (cs : List Value) : Prop := cs.length = es.length * z ∧ ∀ i e, es[i]? = some e → ∃ vs, Ms X e.cells vs ∧ ∀ j v, vs[j]? = some v → cs[i * z + j]? = some v
theorem Told.append {z : Nat} {es ds : List AV} {cs us : List Value} (h : Told X z es cs) (k : Told X z ds us) : Told X z (es ++ ds) (cs ++ us) := by
  refine ⟨by simp [h.1, k.1, Nat.add_mul], fun i e he => ?_⟩
  rcases Nat.lt_or_ge i es.length with hlt | hge
  · rw [List.getElem?_append_left hlt] at he
    obtain ⟨vs, h1, h2⟩ := h.2 i e he
    refine ⟨vs, h1, fun j v hj => ?_⟩
    have := h2 j v hj
    rw [List.getElem?_append_left (List.getElem?_eq_some_iff.1 this).1]
    exact this
  · rw [List.getElem?_append_right hge] at he
    obtain ⟨vs, h1, h2⟩ := k.2 _ e he
    refine ⟨vs, h1, fun j v hj => ?_⟩
    have := h2 j v hj
    have e1 : i * z + j = cs.length + ((i - es.length) * z + j) := by
      rw [h.1]
      have : i * z = es.length * z + (i - es.length) * z := by rw [← Nat.add_mul]; congr 1; omega
      omega
    rw [e1, List.getElem?_append_right (by omega), Nat.add_sub_cancel_left]
    exact this
theorem nextcap_le (need cap : Nat) (h : cap < need) : Builtin.nextslicecap need cap ≤ need + need / 4 + 512 := by
  have hg : ∀ (r c : Nat), c ≤ need → Builtin.growBy need r c ≤ need + need / 4 + 512 := fun r => by
    induction r with
    | zero => intro c hc; simp only [Builtin.growBy]; omega
    | succ r ih =>
      intro c hc
      simp only [Builtin.growBy]
      split
      · omega
      · by_cases hc2 : c + (c + 768) / 4 ≤ need
        · exact ih _ hc2
        · cases r with
          | zero => simp only [Builtin.growBy]; omega
          | succ r => simp only [Builtin.growBy]; split <;> omega
  unfold Builtin.nextslicecap
  split
  · omega
  · split
    · omega
    · exact hg 4 cap (by omega)
def notInt : TypeDesc → Bool
  | .int _ => false
  | _ => true
theorem noInt_some {t : TypeId} (h : noInt P t = true) : ∃ d, P.underlying t = some d ∧ notInt d = true := by
  unfold noInt at h
  split at h
  · cases h
  · cases h
  · rename_i d hd hn
    cases hd' : P.underlying t with
    | none => exact absurd hd' hn
    | some d =>
      refine ⟨d, rfl, ?_⟩
      cases d <;> first | rfl | exact absurd hd' (hd _)
/-- The run of an append that has room. -/
theorem run_append_room {ts : Array TypeId} {t e u ty : TypeId} {du : TypeDesc} {A : Option Addr} {n c m z : Nat} {q : Value} {new : Array Value} {w w' : World} (h0 : ts[0]? = some t) (h1 : ts[1]? = some u) (ht : P.underlying t = some (.slice e)) (hu : P.underlying u = some du)
    (hn : notInt du = true) (hz : ∀ w, (sizeOf e).run P w = .ok z w) (hl : ∀ w, (Builtin.lenOf q).run P w = .ok m w) (hc : n + m ≤ c) (hf : (Builtin.firstCells z m q).run P w = .ok new w)
    (hst : (match A with | some a => storeCells (a.add (n * z)) new.toList | none => pure () : Sem Unit).run P w = .ok () w') :
    (Builtin.append_ ts ty #[.slice A n c, q]).run P w = .ok (.slice A (n + m) c) w' := by
  unfold Builtin.append_
  have e0 : (#[Value.slice A n c, q] : Array Value)[0]? = some (.slice A n c) := rfl
  have e1 : (#[Value.slice A n c, q] : Array Value)[1]? = some q := rfl
  simp only [h0, h1, e0, e1, Sem.run_bind, run_underlying ht, run_underlying hu, Result.andThen_ok, hz, Sem.run_pure]
  cases du <;> simp [notInt] at hn
  all_goals
    simp only [Bool.false_eq_true, if_false, hl, Result.andThen_ok, hc, if_true, Bool.not_false, hf, Sem.run_bind]
    cases A with
    | none => simp at hst; simp [hst]
    | some a => simp at hst; simp [hst]
/-- The run of an append that makes a new row. -/
theorem run_append_new {ts : Array TypeId} {t e u ty : TypeId} {du : TypeDesc} {inf : TypeInfo} {zv : Value} {A : Option Addr} {n c m z : Nat} {q : Value} {old new : Array Value} {w : World} (h0 : ts[0]? = some t) (h1 : ts[1]? = some u) (ht : P.underlying t = some (.slice e)) (hu : P.underlying u = some du)
    (hn : notInt du = true) (hz : ∀ w, (sizeOf e).run P w = .ok z w) (hi : P.info? e = some inf) (hzv : ∀ w, (zeroValue e).run P w = .ok zv w) (hl : ∀ w, (Builtin.lenOf q).run P w = .ok m w) (hc : ¬ n + m ≤ c)
    (hb0 : 0 < inf.bytes) (hb : Builtin.nextslicecap (n + m) c * inf.bytes ≤ 281474976710656)
    (hfo : ∀ w', w'.heap = w.heap → (Builtin.firstCells z n (.slice A n c)).run P w' = .ok old w') (hf : ∀ w', w'.heap = w.heap → (Builtin.firstCells z m q).run P w' = .ok new w') :
    ∃ cap, n + m ≤ cap ∧ (Builtin.append_ ts ty #[.slice A n c, q]).run P w = .ok (.slice (some ⟨w.heap.size, 0, none⟩) (n + m) cap)
      { w with heap := w.heap.push (.cells (old ++ new ++ Builtin.zeroCells zv.cells (cap - (n + m))) e), drawn := w.drawn + 1 } := by
  refine ⟨(n + m) + w.tape w.drawn (.appendCap (n + m) c e) % (2 ^ 63 - (n + m)), by omega, ?_⟩
  unfold Builtin.append_
  have e0 : (#[Value.slice A n c, q] : Array Value)[0]? = some (.slice A n c) := rfl
  have e1 : (#[Value.slice A n c, q] : Array Value)[1]? = some q := rfl
  simp only [h0, h1, e0, e1, Sem.run_bind, run_underlying ht, run_underlying hu, Result.andThen_ok, hz, Sem.run_pure]
  cases du <;> simp [notInt] at hn
  all_goals
    simp only [Bool.false_eq_true, if_false, hl, Result.andThen_ok, hc, Bool.not_false, Sem.run_bind, run_typeInfo _ hi, Sem.run_ite, false_or, Nat.ne_of_gt hb0, and_false, Sem.run_pure]
    rw [if_neg (by omega)]
    simp only [Result.andThen_ok, run_choose, Question.forced, Bool.false_eq_true, if_false, Question.cut, run_askRoom]
    rw [hfo { heap := w.heap, tape := w.tape, drawn := w.drawn + 1, os := w.os, output := w.output } rfl]
    simp only [Result.andThen_ok, if_true]
    rw [hf { heap := w.heap, tape := w.tape, drawn := w.drawn + 1, os := w.os, output := w.output } rfl]
    simp only [Result.andThen_ok, hzv, newRow, Sem.run_bind, run_newObj, Sem.run_pure]
theorem lz_of {es : List AV} {z : Nat} (h : ∀ e ∈ es, e.cells.length = z) : lz z es = true := by
  cases es with
  | nil => rfl
  | cons e es => simp [lz, h e (by simp)]
theorem escI_new {H : List AObj} {z : Nat} {es : List AV} (hb : belL H.length es = true) : EscI H (H ++ [.row z es]) [] := fun l z1 es1 h => by
  rcases Nat.lt_or_ge l H.length with hlt | hge
  · rw [List.getElem?_append_left hlt] at h
    exact .inr fun m hm hp => hp z1 es1 h
  · rw [List.getElem?_append_right hge] at h
    have hl0 : l = H.length := by
      have := (List.getElem?_eq_some_iff.1 h).1
      simp at this; omega
    subst hl0
    simp at h
    obtain ⟨_, rfl⟩ := h
    exact .inr fun m hm' hp => belL_mono (Nat.le_of_lt hm') _ hb
theorem append_ok (hR : Rel G X) {ts : Array TypeId} {t e u ty : TypeId} {inf : TypeInfo} {ag : Bool} {z : Nat} {zv : AV} {x y : AV} {p q : Value} {ys : List AV} {r : R3} (h0 : ts[0]? = some t) (h1 : ts[1]? = some u) (ht : P.underlying t = some (.slice e)) (hu : noInt P u = true)
    (hz : tk P e = some (ag, z)) (hi : P.info? e = some inf) (hzv : zeroT P e = some zv) (hzl : zv.cells.length = z) (hzb : zv.isBad = false) (hx : M X x p) (hy : M X y q) (hys : elemsA y X.H = some ys) (h : appendA z inf.bytes x ys X.H = some r) :
    ∃ v X', (Builtin.append_ ts ty #[p, q]).run P X.w = .ok v X'.w ∧ X'.H = r.2.1 ∧ Rel G X' ∧ Ext X X' ∧ EscI X.H r.2.1 r.2.2 ∧ M X' r.1 v := by
  obtain ⟨du, hdu, hnd⟩ := noInt_some hu
  obtain ⟨d, inf', _, hi', _, _, _, hsz⟩ := tk_some hz
  obtain ⟨inf2, zval, hi2, hzz, hzv', hzrun⟩ := zeroT_some hzv
  have hzc : zval.cells.size = z := by
    subst hzv'
    cases zval <;> first
      | (simp [ofVal, AV.cells] at hzl; simp [Value.cells, hzl]; done)
      | (simp only [ofVal, ofVal1] at hzl hzb; (repeat' split at hzl) <;> simp_all [AV.cells, Value.cells, AV.isBad])
  unfold appendA at h
  split at h
  · -- nothing is appended
    rename_i hemp
    have hys0 : ys = [] := by simpa using hemp
    subst hys0
    split at h
    · rename_i hsome
      injection h with h; subst h
      obtain ⟨n, hn⟩ := Option.isSome_iff_exists.1 hsome
      obtain ⟨A, c, rfl, hc⟩ := len_shape hx hn
      obtain ⟨_, k1, _, cs, k2, k3, _⟩ := elems_ok (P := P) (z := z) hR hy hys rfl
      have hcs : cs = [] := List.eq_nil_of_length_eq_zero (by simpa using k2)
      subst hcs
      refine ⟨_, X, run_append_room (m := 0) (new := #[]) h0 h1 ht hdu hnd hsz (fun w => k1 w) hc (k3 _ rfl) (by cases A <;> simp [storeCells]), rfl, hR, Ext.refl X, EscI.refl _, hx⟩
    · cases h
  · rename_i hne
    have hys0 : ys ≠ [] := by simpa using hne
    have hypos : 0 < ys.length := List.length_pos_iff.2 hys0
    split at h
    case isFalse => cases h
    rename_i hc0
    obtain ⟨hlz, hz0, hb0, hb1⟩ := hc0
    obtain ⟨yone, ylen, ycl, ycs, y1, y2, y3⟩ := elems_ok (P := P) hR hy hys hlz
    have ytold : Told X z ys ycs := ⟨y1, y3⟩
    have ybel : belL X.H.length ys = true := by
      rw [belL_flat]
      intro e he
      obtain ⟨i, hi, rfl⟩ := List.getElem_of_mem he
      obtain ⟨vs, m1, _⟩ := y3 i _ (List.getElem?_eq_getElem hi)
      exact Ms_bel _ _ m1
    -- a new row
    have newrow : ∀ (A : Option Addr) (n c l : Nat) (old : List AV) (ocs : List Value) (H' : List AObj) (E : List Nat), p = .slice A n c → old.length = n → ¬ n + ys.length ≤ c → (n + ys.length) * inf.bytes ≤ 140737489400832 →
        Told X z old ocs → oneL old → (∀ w, w.heap = X.w.heap → (Builtin.firstCells z n (.slice A n c)).run P w = .ok ocs.toArray w) → (∀ e ∈ old, e.cells.length = z) →
        H'[l]? = some (.row z (old ++ ys)) → (∀ k, k ≠ l → H'[k]? = X.H[k]?) → X.H.length ≤ H'.length → (l < X.H.length → ∃ t0, lenOf X.H l = some t0 ∧ t0 < (old ++ ys).length) → EscI X.H H' E →
        ∃ v X', (Builtin.append_ ts ty #[p, q]).run P X.w = .ok v X'.w ∧ X'.H = H' ∧ Rel G X' ∧ Ext X X' ∧ EscI X.H H' E ∧ M X' (.slc l 0 (n + ys.length) (old ++ ys).length) v := by
      intro A n c l old ocs H' E hp hol hcap hbig hold hone1 hfirst hocl hl hoth hlen hgrow hesc
      subst hp
      obtain ⟨cap, hcap1, hrun⟩ := run_append_new (ty := ty) (old := ocs.toArray) (new := ycs.toArray) (w := X.w) h0 h1 ht hdu hnd hsz hi hzrun (fun w => ylen w) hcap hb0 (by
          have h3 := nextcap_le (n + ys.length) c (by omega)
          have h4 : Builtin.nextslicecap (n + ys.length) c * inf.bytes ≤ ((n + ys.length) + (n + ys.length) / 4 + 512) * inf.bytes := Nat.mul_le_mul_right _ h3
          have h5 : (n + ys.length) / 4 * inf.bytes ≤ (n + ys.length) * inf.bytes / 4 := by
            have := Nat.mul_div_le ((n + ys.length)) 4
            rw [Nat.le_div_iff_mul_le (by omega)]
            calc (n + ys.length) / 4 * inf.bytes * 4 = (4 * ((n + ys.length) / 4)) * inf.bytes := by rw [Nat.mul_comm 4, Nat.mul_assoc, Nat.mul_assoc, Nat.mul_comm inf.bytes 4]
              _ ≤ (n + ys.length) * inf.bytes := Nat.mul_le_mul_right _ this
          rw [Nat.add_mul, Nat.add_mul] at h4
          omega) hfirst y2
      have hcat := hold.append ytold
      obtain ⟨w1, w2⟩ := push_ok (w' := { X.w with heap := X.w.heap.push (.cells (ocs.toArray ++ ycs.toArray ++ Builtin.zeroCells zval.cells (cap - (n + ys.length))) e), drawn := X.w.drawn + 1 }) (c := ocs.toArray ++ ycs.toArray ++ Builtin.zeroCells zval.cells (cap - (n + ys.length))) (el := e) (fr := (0, 0)) hR rfl rfl rfl rfl (z := z) (es := old ++ ys) hz0
        (fun i e he => by
          obtain ⟨vs, m1, m2⟩ := hcat.2 i e he
          refine ⟨?_, vs, m1, fun j v hj => ?_⟩
          · have := List.mem_of_getElem? he
            rw [List.mem_append] at this
            rcases this with hm | hm
            · exact hocl e hm
            · exact ycl e hm
          · have h4 := m2 j v hj
            have hlt := (List.getElem?_eq_some_iff.1 h4).1
            rw [Array.getElem?_append_left (by simp at hlt ⊢; omega)]
            simpa using h4)
        (fun e he => by
          rw [List.mem_append] at he
          rcases he with hm | hm
          · exact hone1 e hm
          · exact yone e hm) (by simp [hold.1, y1, Nat.add_mul]) (.inl rfl) hl hoth hlen hgrow hesc
      refine ⟨_, _, hrun, rfl, w1, w2, hesc, ?_⟩
      have hll : l < H'.length := (List.getElem?_eq_some_iff.1 hl).1
      unfold M
      refine ⟨⟨hll, _, _, _, rfl⟩, fun t ht => ?_, fun _ => .inr ⟨by simp [hl, isRow], some ⟨X.w.heap.size, 0, none⟩, cap, X.w.heap.size, z, cap * z, by simp [upd], rfl, by simp [hol], hcap1, ?_, .inr ⟨by simp, by simp⟩⟩⟩
      · simp only [lenOf, hl] at ht
        injection ht with ht; omega
      · simp only [sizeAt, Array.getElem?_push_size, Option.some.injEq]
        simp only [Array.size_append, List.size_toArray, hold.1, y1, Builtin.zeroCells, Array.size_map, Array.size_range, hzc, hol]
        rw [← Nat.add_mul, ← Nat.add_mul]
        congr 1
        omega
    split at h
    · -- nil
      split at h
      · rename_i hbig
        injection h with h; subst h
        rw [M_nils] at hx
        obtain ⟨v, X', k1, k2, k3, k4, k5, k6⟩ := newrow none 0 0 X.H.length [] [] (X.H ++ [.row z ys]) [] hx rfl (by omega) (by simpa using hbig) ⟨by simp, by simp⟩ (by simp [oneL]) (by simp [Builtin.firstCells]) (by simp) (by simp) (fun k hk => by
          rcases Nat.lt_or_ge k X.H.length with hlt | hge
          · rw [List.getElem?_append_left hlt]
          · rw [List.getElem?_eq_none (by simp; omega), List.getElem?_eq_none hge]) (by simp) (fun hlt => absurd hlt (Nat.lt_irrefl _)) (escI_new ybel)
        exact ⟨v, X', k1, k2, k3, k4, k5, by simpa using k6⟩
      · cases h
    · rename_i l off n tot
      split at h
      case isFalse => cases h
      rename_i hbig
      have hx0 := hx
      unfold M at hx
      obtain ⟨⟨hll, _⟩, hk2, hk3⟩ := hx
      split at h
      · rename_i z' es hl
        split at h
        case isFalse => cases h
        rename_i hcc
        obtain ⟨e1, e2, e3, e4⟩ := hcc
        subst e2; subst e4; subst e3; subst e1
        injection h with h; subst h
        rcases hk3 (by simp [lenOf, hl]) with ⟨hv, _⟩ | ⟨hr, A, c, b, z1, s, hi1, hv, a1, a2, a3, a4⟩
        · rw [hl] at hv; cases hv
        · obtain ⟨e5, _, hme, hone1, s', hs', hle, hfr⟩ := hR.rows l z' es b z1 hl hi1
          subst e5
          rw [a3] at hs'; injection hs' with hs'; subst hs'
          obtain ⟨ocs, o1, o2, o3⟩ := Me_vals hme
          have hocl : ∀ e ∈ es, e.cells.length = z1 := fun e he => by
            obtain ⟨i, hi, rfl⟩ := List.getElem_of_mem he
            exact (Me_get hme (List.getElem?_eq_getElem hi)).1
          have hset : (X.H.set l (.row z1 (es ++ ys)))[l]? = some (.row z1 (es ++ ys)) := by simp [hll]
          have hesc : EscI X.H (X.H.set l (.row z1 (es ++ ys))) (escs l ys) := escI_set hl fun m q1 q2 => by rw [belL_append, q1, q2]; rfl
          by_cases hcap : es.length + ys.length ≤ c
          · -- there is room
            obtain ⟨hA, hfit⟩ := a4.resolve_left (by omega)
            have hA' : A = some ⟨b, 0, none⟩ := by rw [hA, Nat.zero_mul]
            subst hA'
            subst hv
            have hfit' : (es.length + ys.length) * z1 ≤ s := Nat.le_trans (Nat.mul_le_mul_right z1 (by omega)) hfit
            rw [Nat.add_mul] at hfit'
            have hst : (storeCells ((⟨b, 0, none⟩ : Addr).add (es.length * z1)) ycs).run P X.w = .ok () (X.w.setCells b (es.length * z1) ycs) := by
              have h3 := run_storeCells_cells (P := P) b (es.length * z1) ycs 0 X.w
                (fun j hj => by rw [cell?_plain]; exact isSome_cellAt a3 (by omega)) (fun j hj => unmark_frozen hfr a3 _ (by omega)) (fun v hv => by
                  obtain ⟨i, hi, rfl⟩ := List.getElem_of_mem hv
                  have hz1 : 0 < z1 := hz0
                  have hi2 : i / z1 < ys.length := by rw [y1] at hi; exact Nat.div_lt_of_lt_mul (by rw [Nat.mul_comm]; exact hi)
                  obtain ⟨vs, m1, m2⟩ := y3 (i / z1) _ (List.getElem?_eq_getElem hi2)
                  have hvl : vs.length = z1 := by rw [← Ms_length m1]; exact ycl _ (List.getElem_mem _)
                  have hmod : i % z1 < vs.length := by rw [hvl]; exact Nat.mod_lt _ hz1
                  have h4 := m2 (i % z1) _ (List.getElem?_eq_getElem hmod)
                  rw [show i / z1 * z1 + i % z1 = i by rw [Nat.mul_comm]; exact Nat.div_add_mod i z1, List.getElem?_eq_getElem hi] at h4
                  injection h4 with h4
                  rw [h4]
                  exact one_all (yone _ (List.getElem_mem _)) m1 _ (List.getElem_mem _))
              simpa [add_at] using h3
            obtain ⟨w1, w2⟩ := write_ok hR hl hi1 (es' := es ++ ys) (by simp) (o := es.length * z1) (vs := ycs) a3 (by rw [y1]; exact hfit') (fun e he => by
                rw [List.mem_append] at he
                rcases he with hm | hm
                · exact hone1 e hm
                · exact yone e hm) (by simp [Nat.add_mul]; exact hfit') (fun i e he => by
              rcases Nat.lt_or_ge i es.length with hlt | hge
              · rw [List.getElem?_append_left hlt] at he
                obtain ⟨q1, q2⟩ := Me_get hme he
                obtain ⟨vs, m1, m2, m3⟩ := Mc_vals q2
                refine ⟨q1, vs, m2, fun j v hj => ?_⟩
                have hj' : j < z1 := by
                  have := (List.getElem?_eq_some_iff.1 hj).1
                  omega
                have hlt2 := Nat.mul_le_mul_right z1 (Nat.succ_le_of_lt hlt)
                rw [Nat.succ_mul] at hlt2
                rw [cellAt_setCells_out (fun _ => .inl (by omega))]
                have := m3 j v hj
                rwa [Nat.zero_add] at this
              · rw [List.getElem?_append_right hge] at he
                obtain ⟨vs, m1, m2⟩ := y3 _ e he
                refine ⟨ycl e (List.mem_of_getElem? he), vs, m1, fun j v hj => ?_⟩
                have h4 := m2 j v hj
                have hlt := (List.getElem?_eq_some_iff.1 h4).1
                have e6 : i * z1 + j = es.length * z1 + ((i - es.length) * z1 + j) := by
                  have : i * z1 = es.length * z1 + (i - es.length) * z1 := by rw [← Nat.add_mul]; congr 1; omega
                  omega
                rw [e6, cellAt_setCells_in a3 (by rw [y1]; exact hfit') hlt]
                exact h4) hesc
            refine ⟨_, _, run_append_room (ty := ty) (new := ycs.toArray) h0 h1 ht hdu hnd hsz (fun w => ylen w) hcap (y2 _ rfl) hst, rfl, w1, w2, hesc, ?_⟩
            unfold M
            refine ⟨⟨by simpa using hll, _, _, _, rfl⟩, fun t ht => ?_, fun _ => .inr ⟨by simp [hll, isRow], some ⟨b, 0, none⟩, c, b, z1, s, hi1, rfl, by simp, hcap, ?_, .inr ⟨by simp, by simpa using hfit⟩⟩⟩
            · simp only [lenOf, hset] at ht
              injection ht with ht; simp at ht; omega
            · rw [(setCells_facts b ycs _ X.w).2.1 b]; exact a3
          · obtain ⟨v, X', k1, k2, k3, k4, k5, k6⟩ := newrow A es.length c l es ocs (X.H.set l (.row z1 (es ++ ys))) (escs l ys) hv rfl hcap hbig ⟨o1, o3⟩ hone1 (fun w hw => by
                by_cases h00 : es.length = 0
                · have : ocs = [] := List.eq_nil_of_length_eq_zero (by rw [o1, h00, Nat.zero_mul])
                  subst this
                  rw [h00]
                  cases A <;> simp [Builtin.firstCells, loadCells, loadCellsFrom]
                · obtain ⟨hA, _⟩ := a4.resolve_left (by omega)
                  have hA' : A = some ⟨b, 0, none⟩ := by rw [hA, Nat.zero_mul]
                  subst hA'
                  have := run_loadCells_list (P := P) w ⟨b, 0, none⟩ ocs (fun j v hj => by rw [add_at, cell?_plain]; unfold cellAt; rw [hw]; exact o2 j v hj)
                  rw [o1] at this
                  simpa [Builtin.firstCells] using this) hocl hset (fun k hk => by simp [Ne.symm hk]) (by simp) (fun _ => ⟨es.length, by simp [lenOf, hl], by simp; omega⟩) hesc
            exact ⟨v, X', k1, k2, k3, k4, k5, by simpa using k6⟩
      · rename_i hl
        split at h
        case isFalse => cases h
        rename_i hcc
        obtain ⟨e1, e2, e3⟩ := hcc
        subst e1; subst e2; subst e3
        injection h with h; subst h
        rcases hk3 (by simp [lenOf, hl]) with ⟨_, _, _, hv⟩ | ⟨hr, _⟩
        · have hset : (X.H.set l (.row z ys))[l]? = some (.row z ys) := by simp [hll]
          have hesc : EscI X.H (X.H.set l (.row z ys)) (escs l ys) := fun k z1 es1 hk => by
            by_cases e : k = l
            · subst e
              unfold escs
              split
              · rename_i hb
                right
                intro m hm hp
                simp [hll] at hk
                obtain ⟨_, rfl⟩ := hk
                exact belL_mono hm _ hb
              · left; simp
            · rw [List.getElem?_set_ne (Ne.symm e)] at hk
              exact .inr fun m hm hp => hp z1 es1 hk
          obtain ⟨v, X', k1, k2, k3, k4, k5, k6⟩ := newrow none 0 0 l [] [] (X.H.set l (.row z ys)) (escs l ys) hv rfl (by omega) (by simpa using hbig) ⟨by simp, by simp⟩ (by simp [oneL]) (by simp [Builtin.firstCells]) (by simp) (by simpa using hset) (fun k hk => by simp [Ne.symm hk]) (by simp) (fun _ => ⟨0, by simp [lenOf, hl], by simpa using hypos⟩) hesc
          exact ⟨v, X', k1, k2, k3, k4, k5, by simpa using k6⟩
        · rw [hl] at hr; simp [isRow] at hr
      · cases h
    · cases h
end
end Go.Pm
