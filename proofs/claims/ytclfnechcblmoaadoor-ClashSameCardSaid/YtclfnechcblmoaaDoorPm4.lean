/- Soundness, part 1: the state's relation, reading, small facts. -/
import Derived.Test.YtclfnechcblmoaaDoorPm3
import Derived.Laws.IdiomCopy
import Derived.ChangeKeysEq
namespace Go.Pm
set_option linter.unusedVariables false
set_option linter.unusedSimpArgs false

/-! ### memory -/
theorem setCells_facts (b : Nat) : ∀ (vs : List Value) (o : Nat) (w : World),
    (w.setCells b o vs).heap.size = w.heap.size ∧ (∀ b', sizeAt (w.setCells b o vs) b' = sizeAt w b') ∧
    (∀ b', b' ≠ b → (w.setCells b o vs).heap[b']? = w.heap[b']?) ∧
    (w.setCells b o vs).tape = w.tape ∧ (w.setCells b o vs).os = w.os ∧ (w.setCells b o vs).output = w.output
  | [], o, w => ⟨rfl, fun _ => rfl, fun _ _ => rfl, rfl, rfl, rfl⟩
  | v :: vs, o, w => by
    obtain ⟨h1, h2, h3, h4, h5, h6⟩ := setCells_facts b vs (o + 1) (w.setCell ⟨b, o, none⟩ v)
    have e : w.setCells b o (v :: vs) = (w.setCell ⟨b, o, none⟩ v).setCells b (o + 1) vs := rfl
    rw [e]
    refine ⟨h1.trans (by simp), fun b' => (h2 b').trans ?_, fun b' hb => (h3 b' hb).trans ?_, h4, h5, h6⟩
    · unfold sizeAt World.setCell
      simp only [Array.getElem?_modify]
      by_cases hb : b = b'
      · subst hb
        simp only [if_true]
        cases hh : w.heap[b]? with
        | none => rfl
        | some ob => cases ob <;> simp
      · simp [hb]
    · unfold World.setCell
      simp only [Array.getElem?_modify]
      simp [Ne.symm hb]
theorem isSome_cellAt {w : World} {b s j : Nat} (hs : sizeAt w b = some s) (h : j < s) : (cellAt w b j).isSome = true := by
  unfold sizeAt at hs
  unfold cellAt
  cases hb : w.heap[b]? with
  | none => rw [hb] at hs; cases hs
  | some o =>
    rw [hb] at hs
    cases o <;> simp at hs ⊢
    omega
theorem cellAt_setCells_in {w : World} {b o : Nat} {vs : List Value} {s : Nat} (hs : sizeAt w b = some s) (hf : o + vs.length ≤ s) {j : Nat} (hj : j < vs.length) :
    cellAt (w.setCells b o vs) b (o + j) = vs[j]? := by
  have := World.cell?_setCells_in b vs o w (fun j hj => ?_) j hj
  · rw [cell?_plain] at this
    rw [this, List.getElem?_eq_getElem hj]
  · rw [cell?_plain]
    rename_i j' hj'
    exact isSome_cellAt hs (by omega)
theorem cellAt_setCells_out {w : World} {b o : Nat} {vs : List Value} {b' j : Nat} (h : b' = b → j < o ∨ o + vs.length ≤ j) :
    cellAt (w.setCells b o vs) b' j = cellAt w b' j := by
  have := World.cell?_setCells_out b vs o w ⟨b', j, none⟩ (fun e _ => h e)
  rwa [cell?_plain, cell?_plain] at this

/-! ### what is matched -/
theorem Ms_length {X : Cx} : ∀ {cs : List AV} {vs : List Value}, Ms X cs vs → cs.length = vs.length
  | [], _, h => by unfold Ms at h; simp [h]
  | _ :: _, _, h => by unfold Ms at h; obtain ⟨u, us, rfl, _, h⟩ := h; simp [Ms_length h]
theorem Ms_get {X : Cx} : ∀ {cs : List AV} {vs : List Value}, Ms X cs vs → ∀ {i : Nat} {c : AV}, cs[i]? = some c → ∃ u, vs[i]? = some u ∧ M X c u
  | [], _, h, i, c, hc => by simp at hc
  | d :: ds, _, h, i, c, hc => by
    unfold Ms at h
    obtain ⟨u, us, rfl, hd, h⟩ := h
    cases i with
    | zero => simp at hc; subst hc; exact ⟨u, rfl, hd⟩
    | succ i => simp at hc ⊢; exact Ms_get h hc
theorem Ms_set {X : Cx} : ∀ {cs : List AV} {vs : List Value}, Ms X cs vs → ∀ (i : Nat) {c : AV} {u : Value}, M X c u → Ms X (cs.set i c) (vs.set i u)
  | [], _, h, i, c, u, hc => by unfold Ms at h; subst h; simp [Ms]
  | d :: ds, _, h, i, c, u, hc => by
    unfold Ms at h
    obtain ⟨u', us, rfl, hd, h⟩ := h
    cases i with
    | zero => simp only [List.set]; unfold Ms; exact ⟨u, us, rfl, hc, h⟩
    | succ i => simp only [List.set]; unfold Ms; exact ⟨u', _, rfl, hd, Ms_set h i hc⟩
theorem Ms_append {X : Cx} : ∀ {cs ds : List AV} {vs us : List Value}, Ms X cs vs → Ms X ds us → Ms X (cs ++ ds) (vs ++ us)
  | [], _, _, _, h, k => by unfold Ms at h; subst h; simpa using k
  | c :: cs, ds, _, us, h, k => by
    unfold Ms at h
    obtain ⟨u, us', rfl, hd, h⟩ := h
    simp only [List.cons_append]
    unfold Ms
    exact ⟨u, _, rfl, hd, Ms_append h k⟩
theorem Ms_replicate {X : Cx} {c : AV} {u : Value} (h : M X c u) : ∀ n, Ms X (List.replicate n c) (List.replicate n u)
  | 0 => by simp [Ms]
  | n + 1 => by rw [List.replicate_succ, List.replicate_succ]; unfold Ms; exact ⟨u, _, rfl, h, Ms_replicate h n⟩
theorem Ms_map {X : Cx} {α : Type} {f : α → AV} {g : α → Value} : ∀ {l : List α}, (∀ x ∈ l, M X (f x) (g x)) → Ms X (l.map f) (l.map g)
  | [], _ => by simp [Ms]
  | x :: l, h => by simp only [List.map]; unfold Ms; exact ⟨_, _, rfl, h x (by simp), Ms_map fun y hy => h y (by simp [hy])⟩
theorem Ms_take {X : Cx} : ∀ {cs : List AV} {vs : List Value}, Ms X cs vs → ∀ n, Ms X (cs.take n) (vs.take n)
  | [], _, h, n => by unfold Ms at h; subst h; simp [Ms]
  | c :: cs, _, h, n => by
    unfold Ms at h
    obtain ⟨u, us, rfl, hd, h⟩ := h
    cases n with
    | zero => simp [Ms]
    | succ n => simp only [List.take]; unfold Ms; exact ⟨u, _, rfl, hd, Ms_take h n⟩
theorem Ms_drop {X : Cx} : ∀ {cs : List AV} {vs : List Value}, Ms X cs vs → ∀ n, Ms X (cs.drop n) (vs.drop n)
  | [], _, h, n => by unfold Ms at h; subst h; simp [Ms]
  | c :: cs, _, h, n => by
    have h0 := h
    unfold Ms at h
    obtain ⟨u, us, rfl, hd, h⟩ := h
    cases n with
    | zero => simpa using h0
    | succ n => simpa using Ms_drop h n
theorem Mc_drop {X : Cx} : ∀ {cs : List AV} {b o : Nat}, Mc X cs b o → ∀ n, n ≤ cs.length → Mc X (cs.drop n) b (o + n)
  | [], b, o, h, n, hn => by simp [Mc]
  | c :: cs, b, o, h, n, hn => by
    cases n with
    | zero => simpa using h
    | succ n =>
      unfold Mc at h
      have := Mc_drop h.2 n (by simp at hn; omega)
      simpa [Nat.add_assoc, Nat.add_comm 1 n] using this
theorem Mc_take {X : Cx} : ∀ {cs : List AV} {b o : Nat}, Mc X cs b o → ∀ n, Mc X (cs.take n) b o
  | [], b, o, h, n => by simp [Mc]
  | c :: cs, b, o, h, n => by
    cases n with
    | zero => simp [Mc]
    | succ n => unfold Mc at h; simp only [List.take]; unfold Mc; exact ⟨h.1, Mc_take h.2 n⟩
/-- The cells as values. -/
theorem Mc_vals {X : Cx} : ∀ {cs : List AV} {b o : Nat}, Mc X cs b o → ∃ vs : List Value, vs.length = cs.length ∧ Ms X cs vs ∧ ∀ j v, vs[j]? = some v → cellAt X.w b (o + j) = some v
  | [], b, o, h => ⟨[], rfl, by simp [Ms], by simp⟩
  | c :: cs, b, o, h => by
    unfold Mc at h
    obtain ⟨⟨u, hu, hc⟩, hs⟩ := h
    obtain ⟨vs, hl, hm, hv⟩ := Mc_vals hs
    refine ⟨u :: vs, by simp [hl], by unfold Ms; exact ⟨u, vs, rfl, hc, hm⟩, fun j v hj => ?_⟩
    cases j with
    | zero => simp at hj; subst hj; exact hu
    | succ j => simp at hj; have := hv j v hj; rwa [show o + 1 + j = o + (j + 1) by omega] at this
theorem Mc_of_vals {X : Cx} : ∀ {cs : List AV} {vs : List Value} {b o : Nat}, Ms X cs vs → (∀ j v, vs[j]? = some v → cellAt X.w b (o + j) = some v) → Mc X cs b o
  | [], _, b, o, h, hv => by simp [Mc]
  | c :: cs, _, b, o, h, hv => by
    unfold Ms at h
    obtain ⟨u, us, rfl, hc, h⟩ := h
    unfold Mc
    refine ⟨⟨u, by simpa using hv 0 u rfl, hc⟩, Mc_of_vals h fun j v hj => ?_⟩
    have := hv (j + 1) v (by simpa using hj)
    rwa [show o + (j + 1) = o + 1 + j by omega] at this

/-- An element's own cells, in any of the two spellings. -/
theorem Me_cons {X : Cx} {e : AV} {es : List AV} {b o z : Nat} (h : Me X (e :: es) b o z) : (e.cells.length = z ∧ Mc X e.cells b o) ∧ Me X es b (o + z) z := by
  cases e with
  | agg cs => unfold Me at h; exact ⟨h.1, h.2⟩
  | _ =>
    unfold Me at h
    obtain ⟨⟨hz, hu⟩, hs⟩ := h
    exact ⟨⟨by simp [AV.cells, hz], by simp only [AV.cells]; unfold Mc; exact ⟨hu, by simp [Mc]⟩⟩, hs⟩
theorem Me_mk {X : Cx} {e : AV} {es : List AV} {b o z : Nat} (h1 : e.cells.length = z) (h2 : Mc X e.cells b o) (h : Me X es b (o + z) z) : Me X (e :: es) b o z := by
  cases e with
  | agg cs => unfold Me; exact ⟨⟨h1, h2⟩, h⟩
  | _ => unfold Me; simp only [AV.cells] at h1 h2; unfold Mc at h2; exact ⟨⟨h1.symm, h2.1⟩, h⟩
theorem Me_get {X : Cx} : ∀ {es : List AV} {b o z : Nat}, Me X es b o z → ∀ {i : Nat} {e : AV}, es[i]? = some e → e.cells.length = z ∧ Mc X e.cells b (o + i * z)
  | [], b, o, z, h, i, e, he => by simp at he
  | d :: ds, b, o, z, h, i, e, he => by
    have hc := Me_cons h
    cases i with
    | zero => simp at he; subst he; simpa using hc.1
    | succ i =>
      simp at he
      have := Me_get hc.2 he
      rwa [show o + z + i * z = o + (i + 1) * z by rw [Nat.succ_mul]; omega] at this
theorem Me_of_get {X : Cx} : ∀ {es : List AV} {b o z : Nat}, (∀ i e, es[i]? = some e → e.cells.length = z ∧ Mc X e.cells b (o + i * z)) → Me X es b o z
  | [], b, o, z, h => by simp [Me]
  | d :: ds, b, o, z, h => by
    have h0 := h 0 d rfl
    refine Me_mk h0.1 (by simpa using h0.2) (Me_of_get fun i e he => ?_)
    have := h (i + 1) e (by simpa using he)
    rwa [show o + (i + 1) * z = o + z + i * z by rw [Nat.succ_mul]; omega] at this

/-- A block none of whose cells is marked. -/
def unmark (w : World) (b : Nat) : Prop := ∃ c e lo hi, w.heap[b]? = some (.cells c e (lo, hi)) ∧ (lo = hi ∨ c.size ≤ lo)
theorem unmark_frozen {w : World} {b s : Nat} (h : unmark w b) (hs : sizeAt w b = some s) (j : Nat) (hj : j < s) : w.frozen? ⟨b, j, none⟩ = false := by
  obtain ⟨c, e, lo, hi, h1, h2⟩ := h
  unfold sizeAt at hs
  rw [h1] at hs
  simp only [Option.some.injEq] at hs
  unfold World.frozen?
  simp only [h1]
  rcases h2 with rfl | h2
  · simp only [Bool.and_eq_false_iff, decide_eq_false_iff_not]; omega
  · simp only [Bool.and_eq_false_iff, decide_eq_false_iff_not]; omega
theorem unmark_eq {w w' : World} {b : Nat} (h : unmark w b) (he : w'.heap[b]? = w.heap[b]?) : unmark w' b := by
  obtain ⟨c, e, lo, hi, h1, h2⟩ := h
  exact ⟨c, e, lo, hi, he.trans h1, h2⟩
theorem unmark_setCell {w : World} {b : Nat} {a : Addr} {v : Value} (h : unmark w b) : unmark (w.setCell a v) b := by
  obtain ⟨c, e, lo, hi, h1, h2⟩ := h
  unfold unmark World.setCell
  simp only [Array.getElem?_modify]
  by_cases hb : a.block = b
  · subst hb
    simp only [if_true, h1, Option.map_some]
    split
    · exact ⟨c, e, lo, hi, rfl, h2⟩
    · exact ⟨c.setIfInBounds a.off v, e, lo, hi, rfl, by simpa using h2⟩
  · simp only [hb, if_false]
    exact ⟨c, e, lo, hi, h1, h2⟩
theorem unmark_setCells {b' : Nat} {b : Nat} : ∀ (vs : List Value) (o : Nat) (w : World), unmark w b' → unmark (w.setCells b o vs) b'
  | [], o, w, h => h
  | v :: vs, o, w, h => unmark_setCells vs (o + 1) _ (unmark_setCell h)

/-- The world is as the abstract heap tells. -/
structure Rel (G : Nat → Option (List AV)) (X : Cx) : Prop where
  rows : ∀ l z es b z', X.H[l]? = some (.row z es) → X.ι l = some (b, z') → z' = z ∧ 0 < z ∧ Me X es b 0 z ∧ oneL es ∧
    ∃ s, sizeAt X.w b = some s ∧ es.length * z ≤ s ∧ unmark X.w b
  inj : ∀ l l' b z z', isRow X.H[l]? → isRow X.H[l']? → X.ι l = some (b, z) → X.ι l' = some (b, z') → l = l'
  glob : ∀ g cs, G g = some cs → X.im g ∧ Mc X cs g 0
  wf : ∀ (l z : Nat) (es : List AV), X.H[l]? = some (AObj.row z es) → belL X.H.length es = true
  fb : ∀ b, X.F b → b < X.w.heap.size ∧ ¬ X.wr b
  gb : ∀ g cs, G g = some cs → belL 0 cs = true

theorem fb_keep {G : Nat → Option (List AV)} {X Y : Cx} (hR : Rel G X) (hE : Ext X Y) : ∀ b, Y.F b → b < Y.w.heap.size ∧ ¬ Y.wr b := fun b hb =>
  have h := hR.fb b (hE.for_ ▸ hb)
  ⟨Nat.lt_of_lt_of_le h.1 hE.size, fun hw => h.2 (hE.wr b h.1 hw)⟩

theorem isRow_some {o : Option AObj} (h : isRow o) : ∃ z es, o = some (.row z es) := by
  unfold isRow at h
  split at h
  · exact ⟨_, _, rfl⟩
  · exact h.elim
theorem lt_of_sizeAt {w : World} {b s : Nat} (h : sizeAt w b = some s) : b < w.heap.size := by
  unfold sizeAt at h
  split at h
  · rename_i c e f hb; exact (Array.getElem?_eq_some_iff.1 hb).1
  · cases h
theorem Rel.wr_lt {G} {X : Cx} (h : Rel G X) {b : Nat} (hb : X.wr b) : b < X.w.heap.size := by
  obtain ⟨l, z, hr, hi⟩ := hb
  obtain ⟨z', es, he⟩ := isRow_some hr
  obtain ⟨_, _, _, _, s, hs, _⟩ := h.rows l z' es b z he hi
  exact lt_of_sizeAt hs

theorem M_ofVal1 (X : Cx) (v : Value) : M X (ofVal1 v) v := by
  cases v with
  | pointer a => cases a <;> simp [ofVal1, M]
  | slice a l c =>
    cases a with
    | none => cases l <;> cases c <;> simp [ofVal1, M]
    | some a => simp [ofVal1, M]
  | tuple vs =>
    simp only [ofVal1]
    split
    · rename_i h
      unfold M; exact ⟨vs, rfl, by simp [Ms, Array.eq_empty_of_size_eq_zero h]⟩
    · simp [M]
  | _ => simp [ofVal1, M]
theorem M_ofVal (X : Cx) (v : Value) : M X (ofVal v) v := by
  unfold ofVal
  split
  · rename_i cs
    unfold M
    exact ⟨cs, rfl, by simpa using Ms_map (f := ofVal1) (g := id) (fun x _ => M_ofVal1 X x)⟩
  · exact M_ofVal1 X v
theorem evA_ok {G} {X : Cx} (hR : Rel G X) {T : List AV} {a : Act} (hF : Ms X T a.tmps.toList) (x : Operand) : M X (evA G T x) (a.eval x) := by
  cases x with
  | tmp t =>
    simp only [evA, Act.eval]
    have hl := Ms_length hF
    by_cases h : t < T.length
    · obtain ⟨u, hu, hm⟩ := Ms_get hF (List.getElem?_eq_getElem h)
      rw [Array.getElem?_toList] at hu
      rw [show T.getD t (.tup []) = T[t] by simp [List.getD, List.getElem?_eq_getElem h], show a.tmps.getD t undef = u by rw [Array.getD_eq_getD_getElem?, hu]; rfl]
      exact hm
    · have h3 : a.tmps.size ≤ t := by
        have h2 : a.tmps.toList.length = a.tmps.size := Array.length_toList
        have h4 : T.length ≤ t := Nat.le_of_not_lt h
        omega
      rw [show T.getD t (.tup []) = .tup [] by simp [List.getD, List.getElem?_eq_none (Nat.le_of_not_lt h)],
        show a.tmps.getD t undef = undef by rw [Array.getD_eq_getD_getElem?, Array.getElem?_eq_none h3]; rfl]
      unfold M
      exact ⟨#[], rfl, by simp [Ms]⟩
  | const v => exact M_ofVal X v
  | global g =>
    simp only [evA, Act.eval]
    cases hg : G g with
    | none => simp [M]
    | some cs =>
      simp only []
      unfold M
      obtain ⟨h1, h2⟩ := hR.glob g cs hg
      exact ⟨g, 0, rfl, h1, h2⟩
  | func f => simp only [evA, Act.eval]; unfold M; exact ⟨#[], #[], rfl, by simp [Ms], by simp [Ms]⟩
theorem putA_ok {X : Cx} {T : List AV} {a : Act} (hF : Ms X T a.tmps.toList) (d : Option Tmp) {v : AV} {u : Value} (h : M X v u) : Ms X (putA T d v) (a.put d u).tmps.toList := by
  cases d with
  | none => exact hF
  | some d => simp only [putA, Act.put, Array.toList_setIfInBounds]; exact Ms_set hF d h

end Go.Pm
